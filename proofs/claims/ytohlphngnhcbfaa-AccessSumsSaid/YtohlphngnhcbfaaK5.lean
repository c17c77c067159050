/- A rule is added to the reference's list: the last statement, in any order (written by a program, addgen.py). -/
import Derived.Test.YtohlphngnhcbfaaK4
import Derived.Test.YtohlphngnhcbfaaK2
import Derived.Sort.OwnSortedInts
namespace Go.Proofs.Ytohlphngnhcbfaa
open Go.EG
attribute [local irreducible] CallK QCall Go.Calls
set_option linter.unusedSimpArgs false
set_option linter.unusedVariables false
set_option maxRecDepth 20000
set_option maxHeartbeats 4000000
section
structure AddH (w : World) (K : Env → List Ent → Prop) (Lb Lh : List Ent) (E : List Entr) (r : Rul) (N : Nat) (a1 a2 : Option Addr) (c1 c2 b6 : Nat) (xs ys : List Value) : Prop where
  hE : E.length ≤ 1048576
  th : Thin Lh Lb
  o1 : oneAll xs
  o2 : oneAll ys
  rs : ∀ L, RdS w [] L a1 (E.length * 5) xs
  rl : ∀ L, RdS w [] L a2 (E.length * 1) ys
  lx : xs.length = E.length * 5
  fin : ∀ (q1 : Option Addr) (q2 : Nat) (z1 : Option Addr) (z2 : Nat), VT Try.prog w [] ops_evergreenref12_Add_6 K tr_evergreenref12_Add_0 Lb [(40, .v (.agg #[.slice q1 (E.length + 1) q2, .slice z1 (E.length + 1) z2])), (44, .v (.int .i64 ((E.length : Int) + 1))), (6, .ptr 6 b6 0)] (.own 26 q1 (E.length + 1) q2 ty_api_Rule 5 (xs ++ ruC r) :: .own 33 z1 (E.length + 1) z2 ty_int 1 (ys ++ [.int .i64 N]) :: Lh)
variable {w : World} {K : Env → List Ent → Prop} {Lb Lh : List Ent} {E : List Entr} {r : Rul} {N : Nat} {a1 a2 : Option Addr} {c1 c2 b6 : Nat} {xs ys : List Value}
theorem add_0 (h : AddH w K Lb Lh E r N a1 a2 c1 c2 b6 xs ys) : ∀ (q1 : Option Addr) (q2 : Nat) (z1 : Option Addr) (z2 : Nat), VT Try.prog w [] ops_evergreenref12_Add_6 K tr_evergreenref12_Add_0 Lb [(40, .v (.agg #[.slice q1 (E.length + 1) q2, .slice z1 (E.length + 1) z2])), (44, .v (.int .i64 ((E.length : Int) + 1))), (6, .ptr 6 b6 0)] (.own 26 q1 (E.length + 1) q2 ty_api_Rule 5 (xs ++ ruC r) :: .own 33 z1 (E.length + 1) z2 ty_int 1 (ys ++ [.int .i64 N]) :: Lh) := h.fin
theorem add_1 (h : AddH w K Lb Lh E r N a1 a2 c1 c2 b6 xs ys) : ∀ (q1 : Option Addr) (q2 : Nat) (z1 : Option Addr) (z2 : Nat) (z3 : Option Addr), VT Try.prog w [] ops_evergreenref12_Add_6 K tr_evergreenref12_Add_1 Lb [(32, .sl 26 q1 (E.length + 1) q2), (36, .sl 33 z1 E.length z2), (38, .sl 38 z3 1 1), (28, .v (.slice a1 E.length c1)), (30, .v (ruV r)), (35, .v (.slice a2 E.length c2)), (37, .v (.int .i64 N)), (44, .v (.int .i64 ((E.length : Int) + 1))), (6, .ptr 6 b6 0)] (.own 26 q1 (E.length + 1) q2 ty_api_Rule 5 (xs ++ ruC r) :: .own 33 z1 E.length z2 ty_int 1 ys :: .own 38 z3 1 1 ty_int 1 ([.int .i64 N]) :: Lh) := by
  have hE := h.hE
  have o1 := h.o1
  have o2 := h.o2
  intro q1 q2 z1 z2 z3
  (repeat' ((conv => whnf); first | refine ⟨xs, h.rs _, ?_⟩ | refine ⟨ys, h.rl _, ?_⟩ | refine And.intro (by first | exact o1 | exact o2 | exact fun _ => Thin.ref (.skip (h.th)) | exact fun _ => Thin.ref (.skip (.skip (h.th))) | exact fun _ => Thin.ref (.skip (.skip (.skip (h.th)))) | exact fun _ => Thin.ref (.skip (.skip (.skip (.skip (h.th))))) | exact Thin.ref (.skip (h.th)) | exact Thin.ref (.skip (.skip (h.th))) | exact Thin.ref (.skip (.skip (.skip (h.th)))) | exact Thin.ref (.skip (.skip (.skip (.skip (h.th))))) | exact ⟨rfl, oneAll_of rfl⟩ | exact oneAll_of rfl | exact rfl | exact ⟨rfl, rfl, rfl, rfl⟩ | exact ⟨rfl, rfl, rfl, rfl, rfl⟩ | exact ⟨by unfold maxLen; omega, by omega⟩ | omega) ?_ | intro _)); refine VC_can (t := tr_evergreenref12_Add_0) _ _ (by (repeat ((conv => whnf); refine And.intro (by first | exact rfl | exact vint_eq (by omega) | exact vint_eq (by (dsimp only; omega)) | exact vsl_eq (by omega) | exact vsl_eq (by first | (dsimp only; omega) | (simp; done) | (simp; omega))) ?_)); exact trivial) (Thin.ref (.own (by omega) rfl (.own (by omega) rfl (.skip (Thin.refl _))))) (add_0 h _ _ _ _)

theorem add_2 (h : AddH w K Lb Lh E r N a1 a2 c1 c2 b6 xs ys) : ∀ (q1 : Option Addr) (q2 : Nat) (z1 : Option Addr) (z2 : Nat), VT Try.prog w [] ops_evergreenref12_Add_6 K tr_evergreenref12_Add_2 Lb [(32, .sl 26 q1 (E.length + 1) q2), (36, .sl 33 z1 E.length z2), (28, .v (.slice a1 E.length c1)), (30, .v (ruV r)), (35, .v (.slice a2 E.length c2)), (37, .v (.int .i64 N)), (44, .v (.int .i64 ((E.length : Int) + 1))), (6, .ptr 6 b6 0)] (.own 26 q1 (E.length + 1) q2 ty_api_Rule 5 (xs ++ ruC r) :: .own 33 z1 E.length z2 ty_int 1 ys :: Lh) := by
  have hE := h.hE
  have o1 := h.o1
  have o2 := h.o2
  intro q1 q2 z1 z2
  (repeat' ((conv => whnf); first | refine ⟨xs, h.rs _, ?_⟩ | refine ⟨ys, h.rl _, ?_⟩ | refine And.intro (by first | exact o1 | exact o2 | exact fun _ => Thin.ref (.skip (h.th)) | exact fun _ => Thin.ref (.skip (.skip (h.th))) | exact fun _ => Thin.ref (.skip (.skip (.skip (h.th)))) | exact fun _ => Thin.ref (.skip (.skip (.skip (.skip (h.th))))) | exact Thin.ref (.skip (h.th)) | exact Thin.ref (.skip (.skip (h.th))) | exact Thin.ref (.skip (.skip (.skip (h.th)))) | exact Thin.ref (.skip (.skip (.skip (.skip (h.th))))) | exact ⟨rfl, oneAll_of rfl⟩ | exact oneAll_of rfl | exact rfl | exact ⟨rfl, rfl, rfl, rfl⟩ | exact ⟨rfl, rfl, rfl, rfl, rfl⟩ | exact ⟨by unfold maxLen; omega, by omega⟩ | omega) ?_ | intro _)); refine VC_can (t := tr_evergreenref12_Add_1) _ _ (by (repeat ((conv => whnf); refine And.intro (by first | exact rfl | exact vint_eq (by omega) | exact vint_eq (by (dsimp only; omega)) | exact vsl_eq (by omega) | exact vsl_eq (by first | (dsimp only; omega) | (simp; done) | (simp; omega))) ?_)); exact trivial) ((Ref.perm (.trans (.swap _ _ _) (.cons _ (.swap _ _ _)))).trans (Thin.ref (.own (by omega) rfl (.own (by omega) rfl (.own (by omega) rfl (Thin.refl _)))))) (add_1 h _ _ _ _ _)

theorem add_3 (h : AddH w K Lb Lh E r N a1 a2 c1 c2 b6 xs ys) : ∀ (q1 : Option Addr) (q2 : Nat) (z1 : Option Addr) (z2 : Nat) (z3 : Option Addr), VT Try.prog w [] ops_evergreenref12_Add_6 K tr_evergreenref12_Add_3 Lb [(32, .sl 26 q1 (E.length + 1) q2), (33, .sl 33 z1 0 z2), (38, .sl 38 z3 1 1), (28, .v (.slice a1 E.length c1)), (30, .v (ruV r)), (35, .v (.slice a2 E.length c2)), (37, .v (.int .i64 N)), (44, .v (.int .i64 ((E.length : Int) + 1))), (6, .ptr 6 b6 0)] (.own 26 q1 (E.length + 1) q2 ty_api_Rule 5 (xs ++ ruC r) :: .own 33 z1 0 z2 ty_int 1 [] :: .own 38 z3 1 1 ty_int 1 ([.int .i64 N]) :: Lh) := by
  have hE := h.hE
  have o1 := h.o1
  have o2 := h.o2
  intro q1 q2 z1 z2 z3
  (repeat' ((conv => whnf); first | refine ⟨xs, h.rs _, ?_⟩ | refine ⟨ys, h.rl _, ?_⟩ | refine And.intro (by first | exact o1 | exact o2 | exact fun _ => Thin.ref (.skip (h.th)) | exact fun _ => Thin.ref (.skip (.skip (h.th))) | exact fun _ => Thin.ref (.skip (.skip (.skip (h.th)))) | exact fun _ => Thin.ref (.skip (.skip (.skip (.skip (h.th))))) | exact Thin.ref (.skip (h.th)) | exact Thin.ref (.skip (.skip (h.th))) | exact Thin.ref (.skip (.skip (.skip (h.th)))) | exact Thin.ref (.skip (.skip (.skip (.skip (h.th))))) | exact ⟨rfl, oneAll_of rfl⟩ | exact oneAll_of rfl | exact rfl | exact ⟨rfl, rfl, rfl, rfl⟩ | exact ⟨rfl, rfl, rfl, rfl, rfl⟩ | exact ⟨by unfold maxLen; omega, by omega⟩ | omega) ?_ | intro _)); refine VC_can (t := tr_evergreenref12_Add_1) _ _ (by (repeat ((conv => whnf); refine And.intro (by first | exact rfl | exact vint_eq (by omega) | exact vint_eq (by (dsimp only; omega)) | exact vsl_eq (by omega) | exact vsl_eq (by first | (dsimp only; omega) | (simp; done) | (simp; omega))) ?_)); exact trivial) (Thin.ref (.own (by omega) rfl (.own (by omega) rfl (.own (by omega) rfl (Thin.refl _))))) (add_1 h _ _ _ _ _)

theorem add_4 (h : AddH w K Lb Lh E r N a1 a2 c1 c2 b6 xs ys) : ∀ (q1 : Option Addr) (q2 : Nat) (z1 : Option Addr) (z2 : Nat), VT Try.prog w [] ops_evergreenref12_Add_6 K tr_evergreenref12_Add_4 Lb [(32, .sl 26 q1 (E.length + 1) q2), (33, .sl 33 z1 0 z2), (28, .v (.slice a1 E.length c1)), (30, .v (ruV r)), (35, .v (.slice a2 E.length c2)), (37, .v (.int .i64 N)), (44, .v (.int .i64 ((E.length : Int) + 1))), (6, .ptr 6 b6 0)] (.own 26 q1 (E.length + 1) q2 ty_api_Rule 5 (xs ++ ruC r) :: .own 33 z1 0 z2 ty_int 1 [] :: Lh) := by
  have hE := h.hE
  have o1 := h.o1
  have o2 := h.o2
  intro q1 q2 z1 z2
  (conv => whnf)
  refine stop_and ?_ ?_
  · (repeat' ((conv => whnf); first | refine ⟨xs, h.rs _, ?_⟩ | refine ⟨ys, h.rl _, ?_⟩ | refine And.intro (by first | exact o1 | exact o2 | exact fun _ => Thin.ref (.skip (h.th)) | exact fun _ => Thin.ref (.skip (.skip (h.th))) | exact fun _ => Thin.ref (.skip (.skip (.skip (h.th)))) | exact fun _ => Thin.ref (.skip (.skip (.skip (.skip (h.th))))) | exact Thin.ref (.skip (h.th)) | exact Thin.ref (.skip (.skip (h.th))) | exact Thin.ref (.skip (.skip (.skip (h.th)))) | exact Thin.ref (.skip (.skip (.skip (.skip (h.th))))) | exact ⟨rfl, oneAll_of rfl⟩ | exact oneAll_of rfl | exact rfl | exact ⟨rfl, rfl, rfl, rfl⟩ | exact ⟨rfl, rfl, rfl, rfl, rfl⟩ | exact ⟨by unfold maxLen; omega, by omega⟩ | omega) ?_ | intro _)); refine VC_can (t := tr_evergreenref12_Add_2) _ _ (by (repeat ((conv => whnf); refine And.intro (by first | exact rfl | exact vint_eq (by omega) | exact vint_eq (by (dsimp only; omega)) | exact vsl_eq (by omega) | exact vsl_eq (by first | (dsimp only; omega) | (simp; done) | (simp; omega))) ?_)); exact trivial) (Thin.ref (.own (by omega) rfl (.own (by omega) rfl (Thin.refl _)))) (add_2 h _ _ _ _)
  (repeat' ((conv => whnf); first | refine ⟨xs, h.rs _, ?_⟩ | refine ⟨ys, h.rl _, ?_⟩ | refine And.intro (by first | exact o1 | exact o2 | exact fun _ => Thin.ref (.skip (h.th)) | exact fun _ => Thin.ref (.skip (.skip (h.th))) | exact fun _ => Thin.ref (.skip (.skip (.skip (h.th)))) | exact fun _ => Thin.ref (.skip (.skip (.skip (.skip (h.th))))) | exact Thin.ref (.skip (h.th)) | exact Thin.ref (.skip (.skip (h.th))) | exact Thin.ref (.skip (.skip (.skip (h.th)))) | exact Thin.ref (.skip (.skip (.skip (.skip (h.th))))) | exact ⟨rfl, oneAll_of rfl⟩ | exact oneAll_of rfl | exact rfl | exact ⟨rfl, rfl, rfl, rfl⟩ | exact ⟨rfl, rfl, rfl, rfl, rfl⟩ | exact ⟨by unfold maxLen; omega, by omega⟩ | omega) ?_ | intro _)); refine VC_can (t := tr_evergreenref12_Add_3) _ _ (by (repeat ((conv => whnf); refine And.intro (by first | exact rfl | exact vint_eq (by omega) | exact vint_eq (by (dsimp only; omega)) | exact vsl_eq (by omega) | exact vsl_eq (by first | (dsimp only; omega) | (simp; done) | (simp; omega))) ?_)); exact trivial) ((Ref.perm (.trans (.swap _ _ _) (.cons _ (.swap _ _ _)))).trans (Thin.ref (.own (by omega) rfl (.own (by omega) rfl (.own (by omega) rfl (Thin.refl _)))))) (add_3 h _ _ _ _ _)

theorem add_5 (h : AddH w K Lb Lh E r N a1 a2 c1 c2 b6 xs ys) : ∀ (q1 : Option Addr) (q2 : Nat) (z3 : Option Addr), VT Try.prog w [] ops_evergreenref12_Add_6 K tr_evergreenref12_Add_5 Lb [(32, .sl 26 q1 (E.length + 1) q2), (38, .sl 38 z3 1 1), (28, .v (.slice a1 E.length c1)), (30, .v (ruV r)), (35, .v (.slice a2 E.length c2)), (37, .v (.int .i64 N)), (44, .v (.int .i64 ((E.length : Int) + 1))), (6, .ptr 6 b6 0)] (.own 26 q1 (E.length + 1) q2 ty_api_Rule 5 (xs ++ ruC r) :: .own 38 z3 1 1 ty_int 1 ([.int .i64 N]) :: Lh) := by
  have hE := h.hE
  have o1 := h.o1
  have o2 := h.o2
  intro q1 q2 z3
  (repeat' ((conv => whnf); first | refine ⟨xs, h.rs _, ?_⟩ | refine ⟨ys, h.rl _, ?_⟩ | refine And.intro (by first | exact o1 | exact o2 | exact fun _ => Thin.ref (.skip (h.th)) | exact fun _ => Thin.ref (.skip (.skip (h.th))) | exact fun _ => Thin.ref (.skip (.skip (.skip (h.th)))) | exact fun _ => Thin.ref (.skip (.skip (.skip (.skip (h.th))))) | exact Thin.ref (.skip (h.th)) | exact Thin.ref (.skip (.skip (h.th))) | exact Thin.ref (.skip (.skip (.skip (h.th)))) | exact Thin.ref (.skip (.skip (.skip (.skip (h.th))))) | exact ⟨rfl, oneAll_of rfl⟩ | exact oneAll_of rfl | exact rfl | exact ⟨rfl, rfl, rfl, rfl⟩ | exact ⟨rfl, rfl, rfl, rfl, rfl⟩ | exact ⟨by unfold maxLen; omega, by omega⟩ | omega) ?_ | intro _)); refine VC_can (t := tr_evergreenref12_Add_3) _ _ (by (repeat ((conv => whnf); refine And.intro (by first | exact rfl | exact vint_eq (by omega) | exact vint_eq (by (dsimp only; omega)) | exact vsl_eq (by omega) | exact vsl_eq (by first | (dsimp only; omega) | (simp; done) | (simp; omega))) ?_)); exact trivial) ((Ref.perm (.swap _ _ _)).trans (Thin.ref (.own (by omega) rfl (.own (by omega) rfl (.own (by omega) rfl (Thin.refl _)))))) (add_3 h _ _ _ _ _)

theorem add_6 (h : AddH w K Lb Lh E r N a1 a2 c1 c2 b6 xs ys) : ∀ (q1 : Option Addr) (q2 : Nat), VT Try.prog w [] ops_evergreenref12_Add_6 K tr_evergreenref12_Add_6 Lb [(32, .sl 26 q1 (E.length + 1) q2), (28, .v (.slice a1 E.length c1)), (30, .v (ruV r)), (35, .v (.slice a2 E.length c2)), (37, .v (.int .i64 N)), (44, .v (.int .i64 ((E.length : Int) + 1))), (6, .ptr 6 b6 0)] (.own 26 q1 (E.length + 1) q2 ty_api_Rule 5 (xs ++ ruC r) :: Lh) := by
  have hE := h.hE
  have o1 := h.o1
  have o2 := h.o2
  intro q1 q2
  (conv => whnf)
  refine stop_and ?_ ?_
  · (repeat' ((conv => whnf); first | refine ⟨xs, h.rs _, ?_⟩ | refine ⟨ys, h.rl _, ?_⟩ | refine And.intro (by first | exact o1 | exact o2 | exact fun _ => Thin.ref (.skip (h.th)) | exact fun _ => Thin.ref (.skip (.skip (h.th))) | exact fun _ => Thin.ref (.skip (.skip (.skip (h.th)))) | exact fun _ => Thin.ref (.skip (.skip (.skip (.skip (h.th))))) | exact Thin.ref (.skip (h.th)) | exact Thin.ref (.skip (.skip (h.th))) | exact Thin.ref (.skip (.skip (.skip (h.th)))) | exact Thin.ref (.skip (.skip (.skip (.skip (h.th))))) | exact ⟨rfl, oneAll_of rfl⟩ | exact oneAll_of rfl | exact rfl | exact ⟨rfl, rfl, rfl, rfl⟩ | exact ⟨rfl, rfl, rfl, rfl, rfl⟩ | exact ⟨by unfold maxLen; omega, by omega⟩ | omega) ?_ | intro _)); refine VC_can (t := tr_evergreenref12_Add_4) _ _ (by (repeat ((conv => whnf); refine And.intro (by first | exact rfl | exact vint_eq (by omega) | exact vint_eq (by (dsimp only; omega)) | exact vsl_eq (by omega) | exact vsl_eq (by first | (dsimp only; omega) | (simp; done) | (simp; omega))) ?_)); exact trivial) ((Ref.perm (.swap _ _ _)).trans (Thin.ref (.own (by omega) rfl (.own (by omega) rfl (Thin.refl _))))) (add_4 h _ _ _ _)
  (repeat' ((conv => whnf); first | refine ⟨xs, h.rs _, ?_⟩ | refine ⟨ys, h.rl _, ?_⟩ | refine And.intro (by first | exact o1 | exact o2 | exact fun _ => Thin.ref (.skip (h.th)) | exact fun _ => Thin.ref (.skip (.skip (h.th))) | exact fun _ => Thin.ref (.skip (.skip (.skip (h.th)))) | exact fun _ => Thin.ref (.skip (.skip (.skip (.skip (h.th))))) | exact Thin.ref (.skip (h.th)) | exact Thin.ref (.skip (.skip (h.th))) | exact Thin.ref (.skip (.skip (.skip (h.th)))) | exact Thin.ref (.skip (.skip (.skip (.skip (h.th))))) | exact ⟨rfl, oneAll_of rfl⟩ | exact oneAll_of rfl | exact rfl | exact ⟨rfl, rfl, rfl, rfl⟩ | exact ⟨rfl, rfl, rfl, rfl, rfl⟩ | exact ⟨by unfold maxLen; omega, by omega⟩ | omega) ?_ | intro _)); refine VC_can (t := tr_evergreenref12_Add_5) _ _ (by (repeat ((conv => whnf); refine And.intro (by first | exact rfl | exact vint_eq (by omega) | exact vint_eq (by (dsimp only; omega)) | exact vsl_eq (by omega) | exact vsl_eq (by first | (dsimp only; omega) | (simp; done) | (simp; omega))) ?_)); exact trivial) ((Ref.perm (.swap _ _ _)).trans (Thin.ref (.own (by omega) rfl (.own (by omega) rfl (Thin.refl _))))) (add_5 h _ _ _)

theorem add_7 (h : AddH w K Lb Lh E r N a1 a2 c1 c2 b6 xs ys) : ∀ (q1 : Option Addr) (q2 : Nat) (q3 : Option Addr) (z1 : Option Addr) (z2 : Nat) (z3 : Option Addr), VT Try.prog w [] ops_evergreenref12_Add_6 K tr_evergreenref12_Add_7 Lb [(29, .sl 26 q1 E.length q2), (31, .sl 31 q3 1 1), (33, .sl 33 z1 0 z2), (38, .sl 38 z3 1 1), (28, .v (.slice a1 E.length c1)), (30, .v (ruV r)), (35, .v (.slice a2 E.length c2)), (37, .v (.int .i64 N)), (44, .v (.int .i64 ((E.length : Int) + 1))), (6, .ptr 6 b6 0)] (.own 26 q1 E.length q2 ty_api_Rule 5 xs :: .own 31 q3 1 1 ty_api_Rule 5 (ruC r) :: .own 33 z1 0 z2 ty_int 1 [] :: .own 38 z3 1 1 ty_int 1 ([.int .i64 N]) :: Lh) := by
  have hE := h.hE
  have o1 := h.o1
  have o2 := h.o2
  intro q1 q2 q3 z1 z2 z3
  (repeat' ((conv => whnf); first | refine ⟨xs, h.rs _, ?_⟩ | refine ⟨ys, h.rl _, ?_⟩ | refine And.intro (by first | exact o1 | exact o2 | exact fun _ => Thin.ref (.skip (h.th)) | exact fun _ => Thin.ref (.skip (.skip (h.th))) | exact fun _ => Thin.ref (.skip (.skip (.skip (h.th)))) | exact fun _ => Thin.ref (.skip (.skip (.skip (.skip (h.th))))) | exact Thin.ref (.skip (h.th)) | exact Thin.ref (.skip (.skip (h.th))) | exact Thin.ref (.skip (.skip (.skip (h.th)))) | exact Thin.ref (.skip (.skip (.skip (.skip (h.th))))) | exact ⟨rfl, oneAll_of rfl⟩ | exact oneAll_of rfl | exact rfl | exact ⟨rfl, rfl, rfl, rfl⟩ | exact ⟨rfl, rfl, rfl, rfl, rfl⟩ | exact ⟨by unfold maxLen; omega, by omega⟩ | omega) ?_ | intro _)); refine VC_can (t := tr_evergreenref12_Add_3) _ _ (by (repeat ((conv => whnf); refine And.intro (by first | exact rfl | exact vint_eq (by omega) | exact vint_eq (by (dsimp only; omega)) | exact vsl_eq (by omega) | exact vsl_eq (by first | (dsimp only; omega) | (simp; done) | (simp; omega))) ?_)); exact trivial) (Thin.ref (.own (by omega) rfl (.skip (.own (by omega) rfl (.own (by omega) rfl (Thin.refl _)))))) (add_3 h _ _ _ _ _)

theorem add_8 (h : AddH w K Lb Lh E r N a1 a2 c1 c2 b6 xs ys) : ∀ (q1 : Option Addr) (q2 : Nat) (q3 : Option Addr) (z1 : Option Addr) (z2 : Nat), VT Try.prog w [] ops_evergreenref12_Add_6 K tr_evergreenref12_Add_8 Lb [(29, .sl 26 q1 E.length q2), (31, .sl 31 q3 1 1), (33, .sl 33 z1 0 z2), (28, .v (.slice a1 E.length c1)), (30, .v (ruV r)), (35, .v (.slice a2 E.length c2)), (37, .v (.int .i64 N)), (44, .v (.int .i64 ((E.length : Int) + 1))), (6, .ptr 6 b6 0)] (.own 26 q1 E.length q2 ty_api_Rule 5 xs :: .own 31 q3 1 1 ty_api_Rule 5 (ruC r) :: .own 33 z1 0 z2 ty_int 1 [] :: Lh) := by
  have hE := h.hE
  have o1 := h.o1
  have o2 := h.o2
  intro q1 q2 q3 z1 z2
  (conv => whnf)
  refine stop_and ?_ ?_
  · (repeat' ((conv => whnf); first | refine ⟨xs, h.rs _, ?_⟩ | refine ⟨ys, h.rl _, ?_⟩ | refine And.intro (by first | exact o1 | exact o2 | exact fun _ => Thin.ref (.skip (h.th)) | exact fun _ => Thin.ref (.skip (.skip (h.th))) | exact fun _ => Thin.ref (.skip (.skip (.skip (h.th)))) | exact fun _ => Thin.ref (.skip (.skip (.skip (.skip (h.th))))) | exact Thin.ref (.skip (h.th)) | exact Thin.ref (.skip (.skip (h.th))) | exact Thin.ref (.skip (.skip (.skip (h.th)))) | exact Thin.ref (.skip (.skip (.skip (.skip (h.th))))) | exact ⟨rfl, oneAll_of rfl⟩ | exact oneAll_of rfl | exact rfl | exact ⟨rfl, rfl, rfl, rfl⟩ | exact ⟨rfl, rfl, rfl, rfl, rfl⟩ | exact ⟨by unfold maxLen; omega, by omega⟩ | omega) ?_ | intro _)); refine VC_can (t := tr_evergreenref12_Add_4) _ _ (by (repeat ((conv => whnf); refine And.intro (by first | exact rfl | exact vint_eq (by omega) | exact vint_eq (by (dsimp only; omega)) | exact vsl_eq (by omega) | exact vsl_eq (by first | (dsimp only; omega) | (simp; done) | (simp; omega))) ?_)); exact trivial) (Thin.ref (.own (by omega) rfl (.skip (.own (by omega) rfl (Thin.refl _))))) (add_4 h _ _ _ _)
  (repeat' ((conv => whnf); first | refine ⟨xs, h.rs _, ?_⟩ | refine ⟨ys, h.rl _, ?_⟩ | refine And.intro (by first | exact o1 | exact o2 | exact fun _ => Thin.ref (.skip (h.th)) | exact fun _ => Thin.ref (.skip (.skip (h.th))) | exact fun _ => Thin.ref (.skip (.skip (.skip (h.th)))) | exact fun _ => Thin.ref (.skip (.skip (.skip (.skip (h.th))))) | exact Thin.ref (.skip (h.th)) | exact Thin.ref (.skip (.skip (h.th))) | exact Thin.ref (.skip (.skip (.skip (h.th)))) | exact Thin.ref (.skip (.skip (.skip (.skip (h.th))))) | exact ⟨rfl, oneAll_of rfl⟩ | exact oneAll_of rfl | exact rfl | exact ⟨rfl, rfl, rfl, rfl⟩ | exact ⟨rfl, rfl, rfl, rfl, rfl⟩ | exact ⟨by unfold maxLen; omega, by omega⟩ | omega) ?_ | intro _)); refine VC_can (t := tr_evergreenref12_Add_7) _ _ (by (repeat ((conv => whnf); refine And.intro (by first | exact rfl | exact vint_eq (by omega) | exact vint_eq (by (dsimp only; omega)) | exact vsl_eq (by omega) | exact vsl_eq (by first | (dsimp only; omega) | (simp; done) | (simp; omega))) ?_)); exact trivial) ((Ref.perm (.trans (.swap _ _ _) (.trans (.cons _ (.swap _ _ _)) (.cons _ (.cons _ (.swap _ _ _)))))).trans (Thin.ref (.own (by omega) rfl (.own (by omega) rfl (.own (by omega) rfl (.own (by omega) rfl (Thin.refl _))))))) (add_7 h _ _ _ _ _ _)

theorem add_9 (h : AddH w K Lb Lh E r N a1 a2 c1 c2 b6 xs ys) : ∀ (q1 : Option Addr) (q2 : Nat) (q3 : Option Addr) (z3 : Option Addr), VT Try.prog w [] ops_evergreenref12_Add_6 K tr_evergreenref12_Add_9 Lb [(29, .sl 26 q1 E.length q2), (31, .sl 31 q3 1 1), (38, .sl 38 z3 1 1), (28, .v (.slice a1 E.length c1)), (30, .v (ruV r)), (35, .v (.slice a2 E.length c2)), (37, .v (.int .i64 N)), (44, .v (.int .i64 ((E.length : Int) + 1))), (6, .ptr 6 b6 0)] (.own 26 q1 E.length q2 ty_api_Rule 5 xs :: .own 31 q3 1 1 ty_api_Rule 5 (ruC r) :: .own 38 z3 1 1 ty_int 1 ([.int .i64 N]) :: Lh) := by
  have hE := h.hE
  have o1 := h.o1
  have o2 := h.o2
  intro q1 q2 q3 z3
  (conv => whnf)
  refine stop_and ?_ ?_
  · (repeat' ((conv => whnf); first | refine ⟨xs, h.rs _, ?_⟩ | refine ⟨ys, h.rl _, ?_⟩ | refine And.intro (by first | exact o1 | exact o2 | exact fun _ => Thin.ref (.skip (h.th)) | exact fun _ => Thin.ref (.skip (.skip (h.th))) | exact fun _ => Thin.ref (.skip (.skip (.skip (h.th)))) | exact fun _ => Thin.ref (.skip (.skip (.skip (.skip (h.th))))) | exact Thin.ref (.skip (h.th)) | exact Thin.ref (.skip (.skip (h.th))) | exact Thin.ref (.skip (.skip (.skip (h.th)))) | exact Thin.ref (.skip (.skip (.skip (.skip (h.th))))) | exact ⟨rfl, oneAll_of rfl⟩ | exact oneAll_of rfl | exact rfl | exact ⟨rfl, rfl, rfl, rfl⟩ | exact ⟨rfl, rfl, rfl, rfl, rfl⟩ | exact ⟨by unfold maxLen; omega, by omega⟩ | omega) ?_ | intro _)); refine VC_can (t := tr_evergreenref12_Add_5) _ _ (by (repeat ((conv => whnf); refine And.intro (by first | exact rfl | exact vint_eq (by omega) | exact vint_eq (by (dsimp only; omega)) | exact vsl_eq (by omega) | exact vsl_eq (by first | (dsimp only; omega) | (simp; done) | (simp; omega))) ?_)); exact trivial) (Thin.ref (.own (by omega) rfl (.skip (.own (by omega) rfl (Thin.refl _))))) (add_5 h _ _ _)
  (repeat' ((conv => whnf); first | refine ⟨xs, h.rs _, ?_⟩ | refine ⟨ys, h.rl _, ?_⟩ | refine And.intro (by first | exact o1 | exact o2 | exact fun _ => Thin.ref (.skip (h.th)) | exact fun _ => Thin.ref (.skip (.skip (h.th))) | exact fun _ => Thin.ref (.skip (.skip (.skip (h.th)))) | exact fun _ => Thin.ref (.skip (.skip (.skip (.skip (h.th))))) | exact Thin.ref (.skip (h.th)) | exact Thin.ref (.skip (.skip (h.th))) | exact Thin.ref (.skip (.skip (.skip (h.th)))) | exact Thin.ref (.skip (.skip (.skip (.skip (h.th))))) | exact ⟨rfl, oneAll_of rfl⟩ | exact oneAll_of rfl | exact rfl | exact ⟨rfl, rfl, rfl, rfl⟩ | exact ⟨rfl, rfl, rfl, rfl, rfl⟩ | exact ⟨by unfold maxLen; omega, by omega⟩ | omega) ?_ | intro _)); refine VC_can (t := tr_evergreenref12_Add_7) _ _ (by (repeat ((conv => whnf); refine And.intro (by first | exact rfl | exact vint_eq (by omega) | exact vint_eq (by (dsimp only; omega)) | exact vsl_eq (by omega) | exact vsl_eq (by first | (dsimp only; omega) | (simp; done) | (simp; omega))) ?_)); exact trivial) ((Ref.perm (.trans (.swap _ _ _) (.cons _ (.swap _ _ _)))).trans (Thin.ref (.own (by omega) rfl (.own (by omega) rfl (.own (by omega) rfl (.own (by omega) rfl (Thin.refl _))))))) (add_7 h _ _ _ _ _ _)

theorem add_10 (h : AddH w K Lb Lh E r N a1 a2 c1 c2 b6 xs ys) : ∀ (q1 : Option Addr) (q2 : Nat) (q3 : Option Addr), VT Try.prog w [] ops_evergreenref12_Add_6 K tr_evergreenref12_Add_10 Lb [(29, .sl 26 q1 E.length q2), (31, .sl 31 q3 1 1), (28, .v (.slice a1 E.length c1)), (30, .v (ruV r)), (35, .v (.slice a2 E.length c2)), (37, .v (.int .i64 N)), (44, .v (.int .i64 ((E.length : Int) + 1))), (6, .ptr 6 b6 0)] (.own 26 q1 E.length q2 ty_api_Rule 5 xs :: .own 31 q3 1 1 ty_api_Rule 5 (ruC r) :: Lh) := by
  have hE := h.hE
  have o1 := h.o1
  have o2 := h.o2
  intro q1 q2 q3
  (conv => whnf)
  refine stop_and ?_ ?_
  · (repeat' ((conv => whnf); first | refine ⟨xs, h.rs _, ?_⟩ | refine ⟨ys, h.rl _, ?_⟩ | refine And.intro (by first | exact o1 | exact o2 | exact fun _ => Thin.ref (.skip (h.th)) | exact fun _ => Thin.ref (.skip (.skip (h.th))) | exact fun _ => Thin.ref (.skip (.skip (.skip (h.th)))) | exact fun _ => Thin.ref (.skip (.skip (.skip (.skip (h.th))))) | exact Thin.ref (.skip (h.th)) | exact Thin.ref (.skip (.skip (h.th))) | exact Thin.ref (.skip (.skip (.skip (h.th)))) | exact Thin.ref (.skip (.skip (.skip (.skip (h.th))))) | exact ⟨rfl, oneAll_of rfl⟩ | exact oneAll_of rfl | exact rfl | exact ⟨rfl, rfl, rfl, rfl⟩ | exact ⟨rfl, rfl, rfl, rfl, rfl⟩ | exact ⟨by unfold maxLen; omega, by omega⟩ | omega) ?_ | intro _)); refine VC_can (t := tr_evergreenref12_Add_6) _ _ (by (repeat ((conv => whnf); refine And.intro (by first | exact rfl | exact vint_eq (by omega) | exact vint_eq (by (dsimp only; omega)) | exact vsl_eq (by omega) | exact vsl_eq (by first | (dsimp only; omega) | (simp; done) | (simp; omega))) ?_)); exact trivial) (Thin.ref (.own (by omega) rfl (.skip (Thin.refl _)))) (add_6 h _ _)
  (conv => whnf)
  refine stop_and ?_ ?_
  · (repeat' ((conv => whnf); first | refine ⟨xs, h.rs _, ?_⟩ | refine ⟨ys, h.rl _, ?_⟩ | refine And.intro (by first | exact o1 | exact o2 | exact fun _ => Thin.ref (.skip (h.th)) | exact fun _ => Thin.ref (.skip (.skip (h.th))) | exact fun _ => Thin.ref (.skip (.skip (.skip (h.th)))) | exact fun _ => Thin.ref (.skip (.skip (.skip (.skip (h.th))))) | exact Thin.ref (.skip (h.th)) | exact Thin.ref (.skip (.skip (h.th))) | exact Thin.ref (.skip (.skip (.skip (h.th)))) | exact Thin.ref (.skip (.skip (.skip (.skip (h.th))))) | exact ⟨rfl, oneAll_of rfl⟩ | exact oneAll_of rfl | exact rfl | exact ⟨rfl, rfl, rfl, rfl⟩ | exact ⟨rfl, rfl, rfl, rfl, rfl⟩ | exact ⟨by unfold maxLen; omega, by omega⟩ | omega) ?_ | intro _)); refine VC_can (t := tr_evergreenref12_Add_8) _ _ (by (repeat ((conv => whnf); refine And.intro (by first | exact rfl | exact vint_eq (by omega) | exact vint_eq (by (dsimp only; omega)) | exact vsl_eq (by omega) | exact vsl_eq (by first | (dsimp only; omega) | (simp; done) | (simp; omega))) ?_)); exact trivial) ((Ref.perm (.trans (.swap _ _ _) (.cons _ (.swap _ _ _)))).trans (Thin.ref (.own (by omega) rfl (.own (by omega) rfl (.own (by omega) rfl (Thin.refl _)))))) (add_8 h _ _ _ _ _)
  (repeat' ((conv => whnf); first | refine ⟨xs, h.rs _, ?_⟩ | refine ⟨ys, h.rl _, ?_⟩ | refine And.intro (by first | exact o1 | exact o2 | exact fun _ => Thin.ref (.skip (h.th)) | exact fun _ => Thin.ref (.skip (.skip (h.th))) | exact fun _ => Thin.ref (.skip (.skip (.skip (h.th)))) | exact fun _ => Thin.ref (.skip (.skip (.skip (.skip (h.th))))) | exact Thin.ref (.skip (h.th)) | exact Thin.ref (.skip (.skip (h.th))) | exact Thin.ref (.skip (.skip (.skip (h.th)))) | exact Thin.ref (.skip (.skip (.skip (.skip (h.th))))) | exact ⟨rfl, oneAll_of rfl⟩ | exact oneAll_of rfl | exact rfl | exact ⟨rfl, rfl, rfl, rfl⟩ | exact ⟨rfl, rfl, rfl, rfl, rfl⟩ | exact ⟨by unfold maxLen; omega, by omega⟩ | omega) ?_ | intro _)); refine VC_can (t := tr_evergreenref12_Add_9) _ _ (by (repeat ((conv => whnf); refine And.intro (by first | exact rfl | exact vint_eq (by omega) | exact vint_eq (by (dsimp only; omega)) | exact vsl_eq (by omega) | exact vsl_eq (by first | (dsimp only; omega) | (simp; done) | (simp; omega))) ?_)); exact trivial) ((Ref.perm (.trans (.swap _ _ _) (.cons _ (.swap _ _ _)))).trans (Thin.ref (.own (by omega) rfl (.own (by omega) rfl (.own (by omega) rfl (Thin.refl _)))))) (add_9 h _ _ _ _)

theorem add_11 (h : AddH w K Lb Lh E r N a1 a2 c1 c2 b6 xs ys) : ∀ (q1 : Option Addr) (q2 : Nat) (z1 : Option Addr) (z2 : Nat) (z3 : Option Addr), VT Try.prog w [] ops_evergreenref12_Add_6 K tr_evergreenref12_Add_11 Lb [(29, .sl 26 q1 E.length q2), (33, .sl 33 z1 0 z2), (38, .sl 38 z3 1 1), (28, .v (.slice a1 E.length c1)), (30, .v (ruV r)), (35, .v (.slice a2 E.length c2)), (37, .v (.int .i64 N)), (44, .v (.int .i64 ((E.length : Int) + 1))), (6, .ptr 6 b6 0)] (.own 26 q1 E.length q2 ty_api_Rule 5 xs :: .own 33 z1 0 z2 ty_int 1 [] :: .own 38 z3 1 1 ty_int 1 ([.int .i64 N]) :: Lh) := by
  have hE := h.hE
  have o1 := h.o1
  have o2 := h.o2
  intro q1 q2 z1 z2 z3
  (repeat' ((conv => whnf); first | refine ⟨xs, h.rs _, ?_⟩ | refine ⟨ys, h.rl _, ?_⟩ | refine And.intro (by first | exact o1 | exact o2 | exact fun _ => Thin.ref (.skip (h.th)) | exact fun _ => Thin.ref (.skip (.skip (h.th))) | exact fun _ => Thin.ref (.skip (.skip (.skip (h.th)))) | exact fun _ => Thin.ref (.skip (.skip (.skip (.skip (h.th))))) | exact Thin.ref (.skip (h.th)) | exact Thin.ref (.skip (.skip (h.th))) | exact Thin.ref (.skip (.skip (.skip (h.th)))) | exact Thin.ref (.skip (.skip (.skip (.skip (h.th))))) | exact ⟨rfl, oneAll_of rfl⟩ | exact oneAll_of rfl | exact rfl | exact ⟨rfl, rfl, rfl, rfl⟩ | exact ⟨rfl, rfl, rfl, rfl, rfl⟩ | exact ⟨by unfold maxLen; omega, by omega⟩ | omega) ?_ | intro _)); refine VC_can (t := tr_evergreenref12_Add_7) _ _ (by (repeat ((conv => whnf); refine And.intro (by first | exact rfl | exact vint_eq (by omega) | exact vint_eq (by (dsimp only; omega)) | exact vsl_eq (by omega) | exact vsl_eq (by first | (dsimp only; omega) | (simp; done) | (simp; omega))) ?_)); exact trivial) ((Ref.perm (.swap _ _ _)).trans (Thin.ref (.own (by omega) rfl (.own (by omega) rfl (.own (by omega) rfl (.own (by omega) rfl (Thin.refl _))))))) (add_7 h _ _ _ _ _ _)

theorem add_12 (h : AddH w K Lb Lh E r N a1 a2 c1 c2 b6 xs ys) : ∀ (q1 : Option Addr) (q2 : Nat) (z1 : Option Addr) (z2 : Nat), VT Try.prog w [] ops_evergreenref12_Add_6 K tr_evergreenref12_Add_12 Lb [(29, .sl 26 q1 E.length q2), (33, .sl 33 z1 0 z2), (28, .v (.slice a1 E.length c1)), (30, .v (ruV r)), (35, .v (.slice a2 E.length c2)), (37, .v (.int .i64 N)), (44, .v (.int .i64 ((E.length : Int) + 1))), (6, .ptr 6 b6 0)] (.own 26 q1 E.length q2 ty_api_Rule 5 xs :: .own 33 z1 0 z2 ty_int 1 [] :: Lh) := by
  have hE := h.hE
  have o1 := h.o1
  have o2 := h.o2
  intro q1 q2 z1 z2
  (conv => whnf)
  refine stop_and ?_ ?_
  · (repeat' ((conv => whnf); first | refine ⟨xs, h.rs _, ?_⟩ | refine ⟨ys, h.rl _, ?_⟩ | refine And.intro (by first | exact o1 | exact o2 | exact fun _ => Thin.ref (.skip (h.th)) | exact fun _ => Thin.ref (.skip (.skip (h.th))) | exact fun _ => Thin.ref (.skip (.skip (.skip (h.th)))) | exact fun _ => Thin.ref (.skip (.skip (.skip (.skip (h.th))))) | exact Thin.ref (.skip (h.th)) | exact Thin.ref (.skip (.skip (h.th))) | exact Thin.ref (.skip (.skip (.skip (h.th)))) | exact Thin.ref (.skip (.skip (.skip (.skip (h.th))))) | exact ⟨rfl, oneAll_of rfl⟩ | exact oneAll_of rfl | exact rfl | exact ⟨rfl, rfl, rfl, rfl⟩ | exact ⟨rfl, rfl, rfl, rfl, rfl⟩ | exact ⟨by unfold maxLen; omega, by omega⟩ | omega) ?_ | intro _)); refine VC_can (t := tr_evergreenref12_Add_8) _ _ (by (repeat ((conv => whnf); refine And.intro (by first | exact rfl | exact vint_eq (by omega) | exact vint_eq (by (dsimp only; omega)) | exact vsl_eq (by omega) | exact vsl_eq (by first | (dsimp only; omega) | (simp; done) | (simp; omega))) ?_)); exact trivial) ((Ref.perm (.swap _ _ _)).trans (Thin.ref (.own (by omega) rfl (.own (by omega) rfl (.own (by omega) rfl (Thin.refl _)))))) (add_8 h _ _ _ _ _)
  (repeat' ((conv => whnf); first | refine ⟨xs, h.rs _, ?_⟩ | refine ⟨ys, h.rl _, ?_⟩ | refine And.intro (by first | exact o1 | exact o2 | exact fun _ => Thin.ref (.skip (h.th)) | exact fun _ => Thin.ref (.skip (.skip (h.th))) | exact fun _ => Thin.ref (.skip (.skip (.skip (h.th)))) | exact fun _ => Thin.ref (.skip (.skip (.skip (.skip (h.th))))) | exact Thin.ref (.skip (h.th)) | exact Thin.ref (.skip (.skip (h.th))) | exact Thin.ref (.skip (.skip (.skip (h.th)))) | exact Thin.ref (.skip (.skip (.skip (.skip (h.th))))) | exact ⟨rfl, oneAll_of rfl⟩ | exact oneAll_of rfl | exact rfl | exact ⟨rfl, rfl, rfl, rfl⟩ | exact ⟨rfl, rfl, rfl, rfl, rfl⟩ | exact ⟨by unfold maxLen; omega, by omega⟩ | omega) ?_ | intro _)); refine VC_can (t := tr_evergreenref12_Add_11) _ _ (by (repeat ((conv => whnf); refine And.intro (by first | exact rfl | exact vint_eq (by omega) | exact vint_eq (by (dsimp only; omega)) | exact vsl_eq (by omega) | exact vsl_eq (by first | (dsimp only; omega) | (simp; done) | (simp; omega))) ?_)); exact trivial) ((Ref.perm (.trans (.swap _ _ _) (.cons _ (.swap _ _ _)))).trans (Thin.ref (.own (by omega) rfl (.own (by omega) rfl (.own (by omega) rfl (Thin.refl _)))))) (add_11 h _ _ _ _ _)

theorem add_13 (h : AddH w K Lb Lh E r N a1 a2 c1 c2 b6 xs ys) : ∀ (q1 : Option Addr) (q2 : Nat) (z3 : Option Addr), VT Try.prog w [] ops_evergreenref12_Add_6 K tr_evergreenref12_Add_13 Lb [(29, .sl 26 q1 E.length q2), (38, .sl 38 z3 1 1), (28, .v (.slice a1 E.length c1)), (30, .v (ruV r)), (35, .v (.slice a2 E.length c2)), (37, .v (.int .i64 N)), (44, .v (.int .i64 ((E.length : Int) + 1))), (6, .ptr 6 b6 0)] (.own 26 q1 E.length q2 ty_api_Rule 5 xs :: .own 38 z3 1 1 ty_int 1 ([.int .i64 N]) :: Lh) := by
  have hE := h.hE
  have o1 := h.o1
  have o2 := h.o2
  intro q1 q2 z3
  (conv => whnf)
  refine stop_and ?_ ?_
  · (repeat' ((conv => whnf); first | refine ⟨xs, h.rs _, ?_⟩ | refine ⟨ys, h.rl _, ?_⟩ | refine And.intro (by first | exact o1 | exact o2 | exact fun _ => Thin.ref (.skip (h.th)) | exact fun _ => Thin.ref (.skip (.skip (h.th))) | exact fun _ => Thin.ref (.skip (.skip (.skip (h.th)))) | exact fun _ => Thin.ref (.skip (.skip (.skip (.skip (h.th))))) | exact Thin.ref (.skip (h.th)) | exact Thin.ref (.skip (.skip (h.th))) | exact Thin.ref (.skip (.skip (.skip (h.th)))) | exact Thin.ref (.skip (.skip (.skip (.skip (h.th))))) | exact ⟨rfl, oneAll_of rfl⟩ | exact oneAll_of rfl | exact rfl | exact ⟨rfl, rfl, rfl, rfl⟩ | exact ⟨rfl, rfl, rfl, rfl, rfl⟩ | exact ⟨by unfold maxLen; omega, by omega⟩ | omega) ?_ | intro _)); refine VC_can (t := tr_evergreenref12_Add_9) _ _ (by (repeat ((conv => whnf); refine And.intro (by first | exact rfl | exact vint_eq (by omega) | exact vint_eq (by (dsimp only; omega)) | exact vsl_eq (by omega) | exact vsl_eq (by first | (dsimp only; omega) | (simp; done) | (simp; omega))) ?_)); exact trivial) ((Ref.perm (.swap _ _ _)).trans (Thin.ref (.own (by omega) rfl (.own (by omega) rfl (.own (by omega) rfl (Thin.refl _)))))) (add_9 h _ _ _ _)
  (repeat' ((conv => whnf); first | refine ⟨xs, h.rs _, ?_⟩ | refine ⟨ys, h.rl _, ?_⟩ | refine And.intro (by first | exact o1 | exact o2 | exact fun _ => Thin.ref (.skip (h.th)) | exact fun _ => Thin.ref (.skip (.skip (h.th))) | exact fun _ => Thin.ref (.skip (.skip (.skip (h.th)))) | exact fun _ => Thin.ref (.skip (.skip (.skip (.skip (h.th))))) | exact Thin.ref (.skip (h.th)) | exact Thin.ref (.skip (.skip (h.th))) | exact Thin.ref (.skip (.skip (.skip (h.th)))) | exact Thin.ref (.skip (.skip (.skip (.skip (h.th))))) | exact ⟨rfl, oneAll_of rfl⟩ | exact oneAll_of rfl | exact rfl | exact ⟨rfl, rfl, rfl, rfl⟩ | exact ⟨rfl, rfl, rfl, rfl, rfl⟩ | exact ⟨by unfold maxLen; omega, by omega⟩ | omega) ?_ | intro _)); refine VC_can (t := tr_evergreenref12_Add_11) _ _ (by (repeat ((conv => whnf); refine And.intro (by first | exact rfl | exact vint_eq (by omega) | exact vint_eq (by (dsimp only; omega)) | exact vsl_eq (by omega) | exact vsl_eq (by first | (dsimp only; omega) | (simp; done) | (simp; omega))) ?_)); exact trivial) ((Ref.perm (.swap _ _ _)).trans (Thin.ref (.own (by omega) rfl (.own (by omega) rfl (.own (by omega) rfl (Thin.refl _)))))) (add_11 h _ _ _ _ _)

theorem add_14 (h : AddH w K Lb Lh E r N a1 a2 c1 c2 b6 xs ys) : ∀ (q1 : Option Addr) (q2 : Nat), VT Try.prog w [] ops_evergreenref12_Add_6 K tr_evergreenref12_Add_14 Lb [(29, .sl 26 q1 E.length q2), (28, .v (.slice a1 E.length c1)), (30, .v (ruV r)), (35, .v (.slice a2 E.length c2)), (37, .v (.int .i64 N)), (44, .v (.int .i64 ((E.length : Int) + 1))), (6, .ptr 6 b6 0)] (.own 26 q1 E.length q2 ty_api_Rule 5 xs :: Lh) := by
  have hE := h.hE
  have o1 := h.o1
  have o2 := h.o2
  intro q1 q2
  (conv => whnf)
  refine stop_and ?_ ?_
  · (repeat' ((conv => whnf); first | refine ⟨xs, h.rs _, ?_⟩ | refine ⟨ys, h.rl _, ?_⟩ | refine And.intro (by first | exact o1 | exact o2 | exact fun _ => Thin.ref (.skip (h.th)) | exact fun _ => Thin.ref (.skip (.skip (h.th))) | exact fun _ => Thin.ref (.skip (.skip (.skip (h.th)))) | exact fun _ => Thin.ref (.skip (.skip (.skip (.skip (h.th))))) | exact Thin.ref (.skip (h.th)) | exact Thin.ref (.skip (.skip (h.th))) | exact Thin.ref (.skip (.skip (.skip (h.th)))) | exact Thin.ref (.skip (.skip (.skip (.skip (h.th))))) | exact ⟨rfl, oneAll_of rfl⟩ | exact oneAll_of rfl | exact rfl | exact ⟨rfl, rfl, rfl, rfl⟩ | exact ⟨rfl, rfl, rfl, rfl, rfl⟩ | exact ⟨by unfold maxLen; omega, by omega⟩ | omega) ?_ | intro _)); refine VC_can (t := tr_evergreenref12_Add_10) _ _ (by (repeat ((conv => whnf); refine And.intro (by first | exact rfl | exact vint_eq (by omega) | exact vint_eq (by (dsimp only; omega)) | exact vsl_eq (by omega) | exact vsl_eq (by first | (dsimp only; omega) | (simp; done) | (simp; omega))) ?_)); exact trivial) ((Ref.perm (.swap _ _ _)).trans (Thin.ref (.own (by omega) rfl (.own (by omega) rfl (Thin.refl _))))) (add_10 h _ _ _)
  (conv => whnf)
  refine stop_and ?_ ?_
  · (repeat' ((conv => whnf); first | refine ⟨xs, h.rs _, ?_⟩ | refine ⟨ys, h.rl _, ?_⟩ | refine And.intro (by first | exact o1 | exact o2 | exact fun _ => Thin.ref (.skip (h.th)) | exact fun _ => Thin.ref (.skip (.skip (h.th))) | exact fun _ => Thin.ref (.skip (.skip (.skip (h.th)))) | exact fun _ => Thin.ref (.skip (.skip (.skip (.skip (h.th))))) | exact Thin.ref (.skip (h.th)) | exact Thin.ref (.skip (.skip (h.th))) | exact Thin.ref (.skip (.skip (.skip (h.th)))) | exact Thin.ref (.skip (.skip (.skip (.skip (h.th))))) | exact ⟨rfl, oneAll_of rfl⟩ | exact oneAll_of rfl | exact rfl | exact ⟨rfl, rfl, rfl, rfl⟩ | exact ⟨rfl, rfl, rfl, rfl, rfl⟩ | exact ⟨by unfold maxLen; omega, by omega⟩ | omega) ?_ | intro _)); refine VC_can (t := tr_evergreenref12_Add_12) _ _ (by (repeat ((conv => whnf); refine And.intro (by first | exact rfl | exact vint_eq (by omega) | exact vint_eq (by (dsimp only; omega)) | exact vsl_eq (by omega) | exact vsl_eq (by first | (dsimp only; omega) | (simp; done) | (simp; omega))) ?_)); exact trivial) ((Ref.perm (.swap _ _ _)).trans (Thin.ref (.own (by omega) rfl (.own (by omega) rfl (Thin.refl _))))) (add_12 h _ _ _ _)
  (repeat' ((conv => whnf); first | refine ⟨xs, h.rs _, ?_⟩ | refine ⟨ys, h.rl _, ?_⟩ | refine And.intro (by first | exact o1 | exact o2 | exact fun _ => Thin.ref (.skip (h.th)) | exact fun _ => Thin.ref (.skip (.skip (h.th))) | exact fun _ => Thin.ref (.skip (.skip (.skip (h.th)))) | exact fun _ => Thin.ref (.skip (.skip (.skip (.skip (h.th))))) | exact Thin.ref (.skip (h.th)) | exact Thin.ref (.skip (.skip (h.th))) | exact Thin.ref (.skip (.skip (.skip (h.th)))) | exact Thin.ref (.skip (.skip (.skip (.skip (h.th))))) | exact ⟨rfl, oneAll_of rfl⟩ | exact oneAll_of rfl | exact rfl | exact ⟨rfl, rfl, rfl, rfl⟩ | exact ⟨rfl, rfl, rfl, rfl, rfl⟩ | exact ⟨by unfold maxLen; omega, by omega⟩ | omega) ?_ | intro _)); refine VC_can (t := tr_evergreenref12_Add_13) _ _ (by (repeat ((conv => whnf); refine And.intro (by first | exact rfl | exact vint_eq (by omega) | exact vint_eq (by (dsimp only; omega)) | exact vsl_eq (by omega) | exact vsl_eq (by first | (dsimp only; omega) | (simp; done) | (simp; omega))) ?_)); exact trivial) ((Ref.perm (.swap _ _ _)).trans (Thin.ref (.own (by omega) rfl (.own (by omega) rfl (Thin.refl _))))) (add_13 h _ _ _)

theorem add_15 (h : AddH w K Lb Lh E r N a1 a2 c1 c2 b6 xs ys) : ∀ (q1 : Option Addr) (q2 : Nat) (q3 : Option Addr) (z1 : Option Addr) (z2 : Nat) (z3 : Option Addr), VT Try.prog w [] ops_evergreenref12_Add_6 K tr_evergreenref12_Add_15 Lb [(26, .sl 26 q1 0 q2), (31, .sl 31 q3 1 1), (33, .sl 33 z1 0 z2), (38, .sl 38 z3 1 1), (28, .v (.slice a1 E.length c1)), (30, .v (ruV r)), (35, .v (.slice a2 E.length c2)), (37, .v (.int .i64 N)), (44, .v (.int .i64 ((E.length : Int) + 1))), (6, .ptr 6 b6 0)] (.own 26 q1 0 q2 ty_api_Rule 5 [] :: .own 31 q3 1 1 ty_api_Rule 5 (ruC r) :: .own 33 z1 0 z2 ty_int 1 [] :: .own 38 z3 1 1 ty_int 1 ([.int .i64 N]) :: Lh) := by
  have hE := h.hE
  have o1 := h.o1
  have o2 := h.o2
  intro q1 q2 q3 z1 z2 z3
  (repeat' ((conv => whnf); first | refine ⟨xs, h.rs _, ?_⟩ | refine ⟨ys, h.rl _, ?_⟩ | refine And.intro (by first | exact o1 | exact o2 | exact fun _ => Thin.ref (.skip (h.th)) | exact fun _ => Thin.ref (.skip (.skip (h.th))) | exact fun _ => Thin.ref (.skip (.skip (.skip (h.th)))) | exact fun _ => Thin.ref (.skip (.skip (.skip (.skip (h.th))))) | exact Thin.ref (.skip (h.th)) | exact Thin.ref (.skip (.skip (h.th))) | exact Thin.ref (.skip (.skip (.skip (h.th)))) | exact Thin.ref (.skip (.skip (.skip (.skip (h.th))))) | exact ⟨rfl, oneAll_of rfl⟩ | exact oneAll_of rfl | exact rfl | exact ⟨rfl, rfl, rfl, rfl⟩ | exact ⟨rfl, rfl, rfl, rfl, rfl⟩ | exact ⟨by unfold maxLen; omega, by omega⟩ | omega) ?_ | intro _)); refine VC_can (t := tr_evergreenref12_Add_7) _ _ (by (repeat ((conv => whnf); refine And.intro (by first | exact rfl | exact vint_eq (by omega) | exact vint_eq (by (dsimp only; omega)) | exact vsl_eq (by omega) | exact vsl_eq (by first | (dsimp only; omega) | (simp; done) | (simp; omega))) ?_)); exact trivial) (Thin.ref (.own (by omega) rfl (.own (by omega) rfl (.own (by omega) rfl (.own (by omega) rfl (Thin.refl _)))))) (add_7 h _ _ _ _ _ _)

theorem add_16 (h : AddH w K Lb Lh E r N a1 a2 c1 c2 b6 xs ys) : ∀ (q1 : Option Addr) (q2 : Nat) (q3 : Option Addr) (z1 : Option Addr) (z2 : Nat), VT Try.prog w [] ops_evergreenref12_Add_6 K tr_evergreenref12_Add_16 Lb [(26, .sl 26 q1 0 q2), (31, .sl 31 q3 1 1), (33, .sl 33 z1 0 z2), (28, .v (.slice a1 E.length c1)), (30, .v (ruV r)), (35, .v (.slice a2 E.length c2)), (37, .v (.int .i64 N)), (44, .v (.int .i64 ((E.length : Int) + 1))), (6, .ptr 6 b6 0)] (.own 26 q1 0 q2 ty_api_Rule 5 [] :: .own 31 q3 1 1 ty_api_Rule 5 (ruC r) :: .own 33 z1 0 z2 ty_int 1 [] :: Lh) := by
  have hE := h.hE
  have o1 := h.o1
  have o2 := h.o2
  intro q1 q2 q3 z1 z2
  (conv => whnf)
  refine stop_and ?_ ?_
  · (repeat' ((conv => whnf); first | refine ⟨xs, h.rs _, ?_⟩ | refine ⟨ys, h.rl _, ?_⟩ | refine And.intro (by first | exact o1 | exact o2 | exact fun _ => Thin.ref (.skip (h.th)) | exact fun _ => Thin.ref (.skip (.skip (h.th))) | exact fun _ => Thin.ref (.skip (.skip (.skip (h.th)))) | exact fun _ => Thin.ref (.skip (.skip (.skip (.skip (h.th))))) | exact Thin.ref (.skip (h.th)) | exact Thin.ref (.skip (.skip (h.th))) | exact Thin.ref (.skip (.skip (.skip (h.th)))) | exact Thin.ref (.skip (.skip (.skip (.skip (h.th))))) | exact ⟨rfl, oneAll_of rfl⟩ | exact oneAll_of rfl | exact rfl | exact ⟨rfl, rfl, rfl, rfl⟩ | exact ⟨rfl, rfl, rfl, rfl, rfl⟩ | exact ⟨by unfold maxLen; omega, by omega⟩ | omega) ?_ | intro _)); refine VC_can (t := tr_evergreenref12_Add_8) _ _ (by (repeat ((conv => whnf); refine And.intro (by first | exact rfl | exact vint_eq (by omega) | exact vint_eq (by (dsimp only; omega)) | exact vsl_eq (by omega) | exact vsl_eq (by first | (dsimp only; omega) | (simp; done) | (simp; omega))) ?_)); exact trivial) (Thin.ref (.own (by omega) rfl (.own (by omega) rfl (.own (by omega) rfl (Thin.refl _))))) (add_8 h _ _ _ _ _)
  (repeat' ((conv => whnf); first | refine ⟨xs, h.rs _, ?_⟩ | refine ⟨ys, h.rl _, ?_⟩ | refine And.intro (by first | exact o1 | exact o2 | exact fun _ => Thin.ref (.skip (h.th)) | exact fun _ => Thin.ref (.skip (.skip (h.th))) | exact fun _ => Thin.ref (.skip (.skip (.skip (h.th)))) | exact fun _ => Thin.ref (.skip (.skip (.skip (.skip (h.th))))) | exact Thin.ref (.skip (h.th)) | exact Thin.ref (.skip (.skip (h.th))) | exact Thin.ref (.skip (.skip (.skip (h.th)))) | exact Thin.ref (.skip (.skip (.skip (.skip (h.th))))) | exact ⟨rfl, oneAll_of rfl⟩ | exact oneAll_of rfl | exact rfl | exact ⟨rfl, rfl, rfl, rfl⟩ | exact ⟨rfl, rfl, rfl, rfl, rfl⟩ | exact ⟨by unfold maxLen; omega, by omega⟩ | omega) ?_ | intro _)); refine VC_can (t := tr_evergreenref12_Add_15) _ _ (by (repeat ((conv => whnf); refine And.intro (by first | exact rfl | exact vint_eq (by omega) | exact vint_eq (by (dsimp only; omega)) | exact vsl_eq (by omega) | exact vsl_eq (by first | (dsimp only; omega) | (simp; done) | (simp; omega))) ?_)); exact trivial) ((Ref.perm (.trans (.swap _ _ _) (.trans (.cons _ (.swap _ _ _)) (.cons _ (.cons _ (.swap _ _ _)))))).trans (Thin.ref (.own (by omega) rfl (.own (by omega) rfl (.own (by omega) rfl (.own (by omega) rfl (Thin.refl _))))))) (add_15 h _ _ _ _ _ _)

theorem add_17 (h : AddH w K Lb Lh E r N a1 a2 c1 c2 b6 xs ys) : ∀ (q1 : Option Addr) (q2 : Nat) (q3 : Option Addr) (z3 : Option Addr), VT Try.prog w [] ops_evergreenref12_Add_6 K tr_evergreenref12_Add_17 Lb [(26, .sl 26 q1 0 q2), (31, .sl 31 q3 1 1), (38, .sl 38 z3 1 1), (28, .v (.slice a1 E.length c1)), (30, .v (ruV r)), (35, .v (.slice a2 E.length c2)), (37, .v (.int .i64 N)), (44, .v (.int .i64 ((E.length : Int) + 1))), (6, .ptr 6 b6 0)] (.own 26 q1 0 q2 ty_api_Rule 5 [] :: .own 31 q3 1 1 ty_api_Rule 5 (ruC r) :: .own 38 z3 1 1 ty_int 1 ([.int .i64 N]) :: Lh) := by
  have hE := h.hE
  have o1 := h.o1
  have o2 := h.o2
  intro q1 q2 q3 z3
  (conv => whnf)
  refine stop_and ?_ ?_
  · (repeat' ((conv => whnf); first | refine ⟨xs, h.rs _, ?_⟩ | refine ⟨ys, h.rl _, ?_⟩ | refine And.intro (by first | exact o1 | exact o2 | exact fun _ => Thin.ref (.skip (h.th)) | exact fun _ => Thin.ref (.skip (.skip (h.th))) | exact fun _ => Thin.ref (.skip (.skip (.skip (h.th)))) | exact fun _ => Thin.ref (.skip (.skip (.skip (.skip (h.th))))) | exact Thin.ref (.skip (h.th)) | exact Thin.ref (.skip (.skip (h.th))) | exact Thin.ref (.skip (.skip (.skip (h.th)))) | exact Thin.ref (.skip (.skip (.skip (.skip (h.th))))) | exact ⟨rfl, oneAll_of rfl⟩ | exact oneAll_of rfl | exact rfl | exact ⟨rfl, rfl, rfl, rfl⟩ | exact ⟨rfl, rfl, rfl, rfl, rfl⟩ | exact ⟨by unfold maxLen; omega, by omega⟩ | omega) ?_ | intro _)); refine VC_can (t := tr_evergreenref12_Add_9) _ _ (by (repeat ((conv => whnf); refine And.intro (by first | exact rfl | exact vint_eq (by omega) | exact vint_eq (by (dsimp only; omega)) | exact vsl_eq (by omega) | exact vsl_eq (by first | (dsimp only; omega) | (simp; done) | (simp; omega))) ?_)); exact trivial) (Thin.ref (.own (by omega) rfl (.own (by omega) rfl (.own (by omega) rfl (Thin.refl _))))) (add_9 h _ _ _ _)
  (repeat' ((conv => whnf); first | refine ⟨xs, h.rs _, ?_⟩ | refine ⟨ys, h.rl _, ?_⟩ | refine And.intro (by first | exact o1 | exact o2 | exact fun _ => Thin.ref (.skip (h.th)) | exact fun _ => Thin.ref (.skip (.skip (h.th))) | exact fun _ => Thin.ref (.skip (.skip (.skip (h.th)))) | exact fun _ => Thin.ref (.skip (.skip (.skip (.skip (h.th))))) | exact Thin.ref (.skip (h.th)) | exact Thin.ref (.skip (.skip (h.th))) | exact Thin.ref (.skip (.skip (.skip (h.th)))) | exact Thin.ref (.skip (.skip (.skip (.skip (h.th))))) | exact ⟨rfl, oneAll_of rfl⟩ | exact oneAll_of rfl | exact rfl | exact ⟨rfl, rfl, rfl, rfl⟩ | exact ⟨rfl, rfl, rfl, rfl, rfl⟩ | exact ⟨by unfold maxLen; omega, by omega⟩ | omega) ?_ | intro _)); refine VC_can (t := tr_evergreenref12_Add_15) _ _ (by (repeat ((conv => whnf); refine And.intro (by first | exact rfl | exact vint_eq (by omega) | exact vint_eq (by (dsimp only; omega)) | exact vsl_eq (by omega) | exact vsl_eq (by first | (dsimp only; omega) | (simp; done) | (simp; omega))) ?_)); exact trivial) ((Ref.perm (.trans (.swap _ _ _) (.cons _ (.swap _ _ _)))).trans (Thin.ref (.own (by omega) rfl (.own (by omega) rfl (.own (by omega) rfl (.own (by omega) rfl (Thin.refl _))))))) (add_15 h _ _ _ _ _ _)

theorem add_18 (h : AddH w K Lb Lh E r N a1 a2 c1 c2 b6 xs ys) : ∀ (q1 : Option Addr) (q2 : Nat) (q3 : Option Addr), VT Try.prog w [] ops_evergreenref12_Add_6 K tr_evergreenref12_Add_18 Lb [(26, .sl 26 q1 0 q2), (31, .sl 31 q3 1 1), (28, .v (.slice a1 E.length c1)), (30, .v (ruV r)), (35, .v (.slice a2 E.length c2)), (37, .v (.int .i64 N)), (44, .v (.int .i64 ((E.length : Int) + 1))), (6, .ptr 6 b6 0)] (.own 26 q1 0 q2 ty_api_Rule 5 [] :: .own 31 q3 1 1 ty_api_Rule 5 (ruC r) :: Lh) := by
  have hE := h.hE
  have o1 := h.o1
  have o2 := h.o2
  intro q1 q2 q3
  (conv => whnf)
  refine stop_and ?_ ?_
  · (repeat' ((conv => whnf); first | refine ⟨xs, h.rs _, ?_⟩ | refine ⟨ys, h.rl _, ?_⟩ | refine And.intro (by first | exact o1 | exact o2 | exact fun _ => Thin.ref (.skip (h.th)) | exact fun _ => Thin.ref (.skip (.skip (h.th))) | exact fun _ => Thin.ref (.skip (.skip (.skip (h.th)))) | exact fun _ => Thin.ref (.skip (.skip (.skip (.skip (h.th))))) | exact Thin.ref (.skip (h.th)) | exact Thin.ref (.skip (.skip (h.th))) | exact Thin.ref (.skip (.skip (.skip (h.th)))) | exact Thin.ref (.skip (.skip (.skip (.skip (h.th))))) | exact ⟨rfl, oneAll_of rfl⟩ | exact oneAll_of rfl | exact rfl | exact ⟨rfl, rfl, rfl, rfl⟩ | exact ⟨rfl, rfl, rfl, rfl, rfl⟩ | exact ⟨by unfold maxLen; omega, by omega⟩ | omega) ?_ | intro _)); refine VC_can (t := tr_evergreenref12_Add_10) _ _ (by (repeat ((conv => whnf); refine And.intro (by first | exact rfl | exact vint_eq (by omega) | exact vint_eq (by (dsimp only; omega)) | exact vsl_eq (by omega) | exact vsl_eq (by first | (dsimp only; omega) | (simp; done) | (simp; omega))) ?_)); exact trivial) (Thin.ref (.own (by omega) rfl (.own (by omega) rfl (Thin.refl _)))) (add_10 h _ _ _)
  (conv => whnf)
  refine stop_and ?_ ?_
  · (repeat' ((conv => whnf); first | refine ⟨xs, h.rs _, ?_⟩ | refine ⟨ys, h.rl _, ?_⟩ | refine And.intro (by first | exact o1 | exact o2 | exact fun _ => Thin.ref (.skip (h.th)) | exact fun _ => Thin.ref (.skip (.skip (h.th))) | exact fun _ => Thin.ref (.skip (.skip (.skip (h.th)))) | exact fun _ => Thin.ref (.skip (.skip (.skip (.skip (h.th))))) | exact Thin.ref (.skip (h.th)) | exact Thin.ref (.skip (.skip (h.th))) | exact Thin.ref (.skip (.skip (.skip (h.th)))) | exact Thin.ref (.skip (.skip (.skip (.skip (h.th))))) | exact ⟨rfl, oneAll_of rfl⟩ | exact oneAll_of rfl | exact rfl | exact ⟨rfl, rfl, rfl, rfl⟩ | exact ⟨rfl, rfl, rfl, rfl, rfl⟩ | exact ⟨by unfold maxLen; omega, by omega⟩ | omega) ?_ | intro _)); refine VC_can (t := tr_evergreenref12_Add_16) _ _ (by (repeat ((conv => whnf); refine And.intro (by first | exact rfl | exact vint_eq (by omega) | exact vint_eq (by (dsimp only; omega)) | exact vsl_eq (by omega) | exact vsl_eq (by first | (dsimp only; omega) | (simp; done) | (simp; omega))) ?_)); exact trivial) ((Ref.perm (.trans (.swap _ _ _) (.cons _ (.swap _ _ _)))).trans (Thin.ref (.own (by omega) rfl (.own (by omega) rfl (.own (by omega) rfl (Thin.refl _)))))) (add_16 h _ _ _ _ _)
  (repeat' ((conv => whnf); first | refine ⟨xs, h.rs _, ?_⟩ | refine ⟨ys, h.rl _, ?_⟩ | refine And.intro (by first | exact o1 | exact o2 | exact fun _ => Thin.ref (.skip (h.th)) | exact fun _ => Thin.ref (.skip (.skip (h.th))) | exact fun _ => Thin.ref (.skip (.skip (.skip (h.th)))) | exact fun _ => Thin.ref (.skip (.skip (.skip (.skip (h.th))))) | exact Thin.ref (.skip (h.th)) | exact Thin.ref (.skip (.skip (h.th))) | exact Thin.ref (.skip (.skip (.skip (h.th)))) | exact Thin.ref (.skip (.skip (.skip (.skip (h.th))))) | exact ⟨rfl, oneAll_of rfl⟩ | exact oneAll_of rfl | exact rfl | exact ⟨rfl, rfl, rfl, rfl⟩ | exact ⟨rfl, rfl, rfl, rfl, rfl⟩ | exact ⟨by unfold maxLen; omega, by omega⟩ | omega) ?_ | intro _)); refine VC_can (t := tr_evergreenref12_Add_17) _ _ (by (repeat ((conv => whnf); refine And.intro (by first | exact rfl | exact vint_eq (by omega) | exact vint_eq (by (dsimp only; omega)) | exact vsl_eq (by omega) | exact vsl_eq (by first | (dsimp only; omega) | (simp; done) | (simp; omega))) ?_)); exact trivial) ((Ref.perm (.trans (.swap _ _ _) (.cons _ (.swap _ _ _)))).trans (Thin.ref (.own (by omega) rfl (.own (by omega) rfl (.own (by omega) rfl (Thin.refl _)))))) (add_17 h _ _ _ _)

theorem add_19 (h : AddH w K Lb Lh E r N a1 a2 c1 c2 b6 xs ys) : ∀ (q1 : Option Addr) (q2 : Nat) (z1 : Option Addr) (z2 : Nat) (z3 : Option Addr), VT Try.prog w [] ops_evergreenref12_Add_6 K tr_evergreenref12_Add_19 Lb [(26, .sl 26 q1 0 q2), (33, .sl 33 z1 0 z2), (38, .sl 38 z3 1 1), (28, .v (.slice a1 E.length c1)), (30, .v (ruV r)), (35, .v (.slice a2 E.length c2)), (37, .v (.int .i64 N)), (44, .v (.int .i64 ((E.length : Int) + 1))), (6, .ptr 6 b6 0)] (.own 26 q1 0 q2 ty_api_Rule 5 [] :: .own 33 z1 0 z2 ty_int 1 [] :: .own 38 z3 1 1 ty_int 1 ([.int .i64 N]) :: Lh) := by
  have hE := h.hE
  have o1 := h.o1
  have o2 := h.o2
  intro q1 q2 z1 z2 z3
  (conv => whnf)
  refine stop_and ?_ ?_
  · (repeat' ((conv => whnf); first | refine ⟨xs, h.rs _, ?_⟩ | refine ⟨ys, h.rl _, ?_⟩ | refine And.intro (by first | exact o1 | exact o2 | exact fun _ => Thin.ref (.skip (h.th)) | exact fun _ => Thin.ref (.skip (.skip (h.th))) | exact fun _ => Thin.ref (.skip (.skip (.skip (h.th)))) | exact fun _ => Thin.ref (.skip (.skip (.skip (.skip (h.th))))) | exact Thin.ref (.skip (h.th)) | exact Thin.ref (.skip (.skip (h.th))) | exact Thin.ref (.skip (.skip (.skip (h.th)))) | exact Thin.ref (.skip (.skip (.skip (.skip (h.th))))) | exact ⟨rfl, oneAll_of rfl⟩ | exact oneAll_of rfl | exact rfl | exact ⟨rfl, rfl, rfl, rfl⟩ | exact ⟨rfl, rfl, rfl, rfl, rfl⟩ | exact ⟨by unfold maxLen; omega, by omega⟩ | omega) ?_ | intro _)); refine VC_can (t := tr_evergreenref12_Add_11) _ _ (by (repeat ((conv => whnf); refine And.intro (by first | exact rfl | exact vint_eq (by omega) | exact vint_eq (by (dsimp only; omega)) | exact vsl_eq (by omega) | exact vsl_eq (by first | (dsimp only; omega) | (simp; done) | (simp; omega))) ?_)); exact trivial) (Thin.ref (.own (by omega) rfl (.own (by omega) rfl (.own (by omega) rfl (Thin.refl _))))) (add_11 h _ _ _ _ _)
  (repeat' ((conv => whnf); first | refine ⟨xs, h.rs _, ?_⟩ | refine ⟨ys, h.rl _, ?_⟩ | refine And.intro (by first | exact o1 | exact o2 | exact fun _ => Thin.ref (.skip (h.th)) | exact fun _ => Thin.ref (.skip (.skip (h.th))) | exact fun _ => Thin.ref (.skip (.skip (.skip (h.th)))) | exact fun _ => Thin.ref (.skip (.skip (.skip (.skip (h.th))))) | exact Thin.ref (.skip (h.th)) | exact Thin.ref (.skip (.skip (h.th))) | exact Thin.ref (.skip (.skip (.skip (h.th)))) | exact Thin.ref (.skip (.skip (.skip (.skip (h.th))))) | exact ⟨rfl, oneAll_of rfl⟩ | exact oneAll_of rfl | exact rfl | exact ⟨rfl, rfl, rfl, rfl⟩ | exact ⟨rfl, rfl, rfl, rfl, rfl⟩ | exact ⟨by unfold maxLen; omega, by omega⟩ | omega) ?_ | intro _)); refine VC_can (t := tr_evergreenref12_Add_15) _ _ (by (repeat ((conv => whnf); refine And.intro (by first | exact rfl | exact vint_eq (by omega) | exact vint_eq (by (dsimp only; omega)) | exact vsl_eq (by omega) | exact vsl_eq (by first | (dsimp only; omega) | (simp; done) | (simp; omega))) ?_)); exact trivial) ((Ref.perm (.swap _ _ _)).trans (Thin.ref (.own (by omega) rfl (.own (by omega) rfl (.own (by omega) rfl (.own (by omega) rfl (Thin.refl _))))))) (add_15 h _ _ _ _ _ _)

theorem add_20 (h : AddH w K Lb Lh E r N a1 a2 c1 c2 b6 xs ys) : ∀ (q1 : Option Addr) (q2 : Nat) (z1 : Option Addr) (z2 : Nat), VT Try.prog w [] ops_evergreenref12_Add_6 K tr_evergreenref12_Add_20 Lb [(26, .sl 26 q1 0 q2), (33, .sl 33 z1 0 z2), (28, .v (.slice a1 E.length c1)), (30, .v (ruV r)), (35, .v (.slice a2 E.length c2)), (37, .v (.int .i64 N)), (44, .v (.int .i64 ((E.length : Int) + 1))), (6, .ptr 6 b6 0)] (.own 26 q1 0 q2 ty_api_Rule 5 [] :: .own 33 z1 0 z2 ty_int 1 [] :: Lh) := by
  have hE := h.hE
  have o1 := h.o1
  have o2 := h.o2
  intro q1 q2 z1 z2
  (conv => whnf)
  refine stop_and ?_ ?_
  · (repeat' ((conv => whnf); first | refine ⟨xs, h.rs _, ?_⟩ | refine ⟨ys, h.rl _, ?_⟩ | refine And.intro (by first | exact o1 | exact o2 | exact fun _ => Thin.ref (.skip (h.th)) | exact fun _ => Thin.ref (.skip (.skip (h.th))) | exact fun _ => Thin.ref (.skip (.skip (.skip (h.th)))) | exact fun _ => Thin.ref (.skip (.skip (.skip (.skip (h.th))))) | exact Thin.ref (.skip (h.th)) | exact Thin.ref (.skip (.skip (h.th))) | exact Thin.ref (.skip (.skip (.skip (h.th)))) | exact Thin.ref (.skip (.skip (.skip (.skip (h.th))))) | exact ⟨rfl, oneAll_of rfl⟩ | exact oneAll_of rfl | exact rfl | exact ⟨rfl, rfl, rfl, rfl⟩ | exact ⟨rfl, rfl, rfl, rfl, rfl⟩ | exact ⟨by unfold maxLen; omega, by omega⟩ | omega) ?_ | intro _)); refine VC_can (t := tr_evergreenref12_Add_12) _ _ (by (repeat ((conv => whnf); refine And.intro (by first | exact rfl | exact vint_eq (by omega) | exact vint_eq (by (dsimp only; omega)) | exact vsl_eq (by omega) | exact vsl_eq (by first | (dsimp only; omega) | (simp; done) | (simp; omega))) ?_)); exact trivial) (Thin.ref (.own (by omega) rfl (.own (by omega) rfl (Thin.refl _)))) (add_12 h _ _ _ _)
  (conv => whnf)
  refine stop_and ?_ ?_
  · (repeat' ((conv => whnf); first | refine ⟨xs, h.rs _, ?_⟩ | refine ⟨ys, h.rl _, ?_⟩ | refine And.intro (by first | exact o1 | exact o2 | exact fun _ => Thin.ref (.skip (h.th)) | exact fun _ => Thin.ref (.skip (.skip (h.th))) | exact fun _ => Thin.ref (.skip (.skip (.skip (h.th)))) | exact fun _ => Thin.ref (.skip (.skip (.skip (.skip (h.th))))) | exact Thin.ref (.skip (h.th)) | exact Thin.ref (.skip (.skip (h.th))) | exact Thin.ref (.skip (.skip (.skip (h.th)))) | exact Thin.ref (.skip (.skip (.skip (.skip (h.th))))) | exact ⟨rfl, oneAll_of rfl⟩ | exact oneAll_of rfl | exact rfl | exact ⟨rfl, rfl, rfl, rfl⟩ | exact ⟨rfl, rfl, rfl, rfl, rfl⟩ | exact ⟨by unfold maxLen; omega, by omega⟩ | omega) ?_ | intro _)); refine VC_can (t := tr_evergreenref12_Add_16) _ _ (by (repeat ((conv => whnf); refine And.intro (by first | exact rfl | exact vint_eq (by omega) | exact vint_eq (by (dsimp only; omega)) | exact vsl_eq (by omega) | exact vsl_eq (by first | (dsimp only; omega) | (simp; done) | (simp; omega))) ?_)); exact trivial) ((Ref.perm (.swap _ _ _)).trans (Thin.ref (.own (by omega) rfl (.own (by omega) rfl (.own (by omega) rfl (Thin.refl _)))))) (add_16 h _ _ _ _ _)
  (repeat' ((conv => whnf); first | refine ⟨xs, h.rs _, ?_⟩ | refine ⟨ys, h.rl _, ?_⟩ | refine And.intro (by first | exact o1 | exact o2 | exact fun _ => Thin.ref (.skip (h.th)) | exact fun _ => Thin.ref (.skip (.skip (h.th))) | exact fun _ => Thin.ref (.skip (.skip (.skip (h.th)))) | exact fun _ => Thin.ref (.skip (.skip (.skip (.skip (h.th))))) | exact Thin.ref (.skip (h.th)) | exact Thin.ref (.skip (.skip (h.th))) | exact Thin.ref (.skip (.skip (.skip (h.th)))) | exact Thin.ref (.skip (.skip (.skip (.skip (h.th))))) | exact ⟨rfl, oneAll_of rfl⟩ | exact oneAll_of rfl | exact rfl | exact ⟨rfl, rfl, rfl, rfl⟩ | exact ⟨rfl, rfl, rfl, rfl, rfl⟩ | exact ⟨by unfold maxLen; omega, by omega⟩ | omega) ?_ | intro _)); refine VC_can (t := tr_evergreenref12_Add_19) _ _ (by (repeat ((conv => whnf); refine And.intro (by first | exact rfl | exact vint_eq (by omega) | exact vint_eq (by (dsimp only; omega)) | exact vsl_eq (by omega) | exact vsl_eq (by first | (dsimp only; omega) | (simp; done) | (simp; omega))) ?_)); exact trivial) ((Ref.perm (.trans (.swap _ _ _) (.cons _ (.swap _ _ _)))).trans (Thin.ref (.own (by omega) rfl (.own (by omega) rfl (.own (by omega) rfl (Thin.refl _)))))) (add_19 h _ _ _ _ _)

theorem add_21 (h : AddH w K Lb Lh E r N a1 a2 c1 c2 b6 xs ys) : ∀ (q1 : Option Addr) (q2 : Nat) (z3 : Option Addr), VT Try.prog w [] ops_evergreenref12_Add_6 K tr_evergreenref12_Add_21 Lb [(26, .sl 26 q1 0 q2), (38, .sl 38 z3 1 1), (28, .v (.slice a1 E.length c1)), (30, .v (ruV r)), (35, .v (.slice a2 E.length c2)), (37, .v (.int .i64 N)), (44, .v (.int .i64 ((E.length : Int) + 1))), (6, .ptr 6 b6 0)] (.own 26 q1 0 q2 ty_api_Rule 5 [] :: .own 38 z3 1 1 ty_int 1 ([.int .i64 N]) :: Lh) := by
  have hE := h.hE
  have o1 := h.o1
  have o2 := h.o2
  intro q1 q2 z3
  (conv => whnf)
  refine stop_and ?_ ?_
  · (repeat' ((conv => whnf); first | refine ⟨xs, h.rs _, ?_⟩ | refine ⟨ys, h.rl _, ?_⟩ | refine And.intro (by first | exact o1 | exact o2 | exact fun _ => Thin.ref (.skip (h.th)) | exact fun _ => Thin.ref (.skip (.skip (h.th))) | exact fun _ => Thin.ref (.skip (.skip (.skip (h.th)))) | exact fun _ => Thin.ref (.skip (.skip (.skip (.skip (h.th))))) | exact Thin.ref (.skip (h.th)) | exact Thin.ref (.skip (.skip (h.th))) | exact Thin.ref (.skip (.skip (.skip (h.th)))) | exact Thin.ref (.skip (.skip (.skip (.skip (h.th))))) | exact ⟨rfl, oneAll_of rfl⟩ | exact oneAll_of rfl | exact rfl | exact ⟨rfl, rfl, rfl, rfl⟩ | exact ⟨rfl, rfl, rfl, rfl, rfl⟩ | exact ⟨by unfold maxLen; omega, by omega⟩ | omega) ?_ | intro _)); refine VC_can (t := tr_evergreenref12_Add_13) _ _ (by (repeat ((conv => whnf); refine And.intro (by first | exact rfl | exact vint_eq (by omega) | exact vint_eq (by (dsimp only; omega)) | exact vsl_eq (by omega) | exact vsl_eq (by first | (dsimp only; omega) | (simp; done) | (simp; omega))) ?_)); exact trivial) (Thin.ref (.own (by omega) rfl (.own (by omega) rfl (Thin.refl _)))) (add_13 h _ _ _)
  (conv => whnf)
  refine stop_and ?_ ?_
  · (repeat' ((conv => whnf); first | refine ⟨xs, h.rs _, ?_⟩ | refine ⟨ys, h.rl _, ?_⟩ | refine And.intro (by first | exact o1 | exact o2 | exact fun _ => Thin.ref (.skip (h.th)) | exact fun _ => Thin.ref (.skip (.skip (h.th))) | exact fun _ => Thin.ref (.skip (.skip (.skip (h.th)))) | exact fun _ => Thin.ref (.skip (.skip (.skip (.skip (h.th))))) | exact Thin.ref (.skip (h.th)) | exact Thin.ref (.skip (.skip (h.th))) | exact Thin.ref (.skip (.skip (.skip (h.th)))) | exact Thin.ref (.skip (.skip (.skip (.skip (h.th))))) | exact ⟨rfl, oneAll_of rfl⟩ | exact oneAll_of rfl | exact rfl | exact ⟨rfl, rfl, rfl, rfl⟩ | exact ⟨rfl, rfl, rfl, rfl, rfl⟩ | exact ⟨by unfold maxLen; omega, by omega⟩ | omega) ?_ | intro _)); refine VC_can (t := tr_evergreenref12_Add_17) _ _ (by (repeat ((conv => whnf); refine And.intro (by first | exact rfl | exact vint_eq (by omega) | exact vint_eq (by (dsimp only; omega)) | exact vsl_eq (by omega) | exact vsl_eq (by first | (dsimp only; omega) | (simp; done) | (simp; omega))) ?_)); exact trivial) ((Ref.perm (.swap _ _ _)).trans (Thin.ref (.own (by omega) rfl (.own (by omega) rfl (.own (by omega) rfl (Thin.refl _)))))) (add_17 h _ _ _ _)
  (repeat' ((conv => whnf); first | refine ⟨xs, h.rs _, ?_⟩ | refine ⟨ys, h.rl _, ?_⟩ | refine And.intro (by first | exact o1 | exact o2 | exact fun _ => Thin.ref (.skip (h.th)) | exact fun _ => Thin.ref (.skip (.skip (h.th))) | exact fun _ => Thin.ref (.skip (.skip (.skip (h.th)))) | exact fun _ => Thin.ref (.skip (.skip (.skip (.skip (h.th))))) | exact Thin.ref (.skip (h.th)) | exact Thin.ref (.skip (.skip (h.th))) | exact Thin.ref (.skip (.skip (.skip (h.th)))) | exact Thin.ref (.skip (.skip (.skip (.skip (h.th))))) | exact ⟨rfl, oneAll_of rfl⟩ | exact oneAll_of rfl | exact rfl | exact ⟨rfl, rfl, rfl, rfl⟩ | exact ⟨rfl, rfl, rfl, rfl, rfl⟩ | exact ⟨by unfold maxLen; omega, by omega⟩ | omega) ?_ | intro _)); refine VC_can (t := tr_evergreenref12_Add_19) _ _ (by (repeat ((conv => whnf); refine And.intro (by first | exact rfl | exact vint_eq (by omega) | exact vint_eq (by (dsimp only; omega)) | exact vsl_eq (by omega) | exact vsl_eq (by first | (dsimp only; omega) | (simp; done) | (simp; omega))) ?_)); exact trivial) ((Ref.perm (.swap _ _ _)).trans (Thin.ref (.own (by omega) rfl (.own (by omega) rfl (.own (by omega) rfl (Thin.refl _)))))) (add_19 h _ _ _ _ _)

theorem add_22 (h : AddH w K Lb Lh E r N a1 a2 c1 c2 b6 xs ys) : ∀ (q1 : Option Addr) (q2 : Nat), VT Try.prog w [] ops_evergreenref12_Add_6 K tr_evergreenref12_Add_22 Lb [(26, .sl 26 q1 0 q2), (28, .v (.slice a1 E.length c1)), (30, .v (ruV r)), (35, .v (.slice a2 E.length c2)), (37, .v (.int .i64 N)), (44, .v (.int .i64 ((E.length : Int) + 1))), (6, .ptr 6 b6 0)] (.own 26 q1 0 q2 ty_api_Rule 5 [] :: Lh) := by
  have hE := h.hE
  have o1 := h.o1
  have o2 := h.o2
  intro q1 q2
  (conv => whnf)
  refine stop_and ?_ ?_
  · (repeat' ((conv => whnf); first | refine ⟨xs, h.rs _, ?_⟩ | refine ⟨ys, h.rl _, ?_⟩ | refine And.intro (by first | exact o1 | exact o2 | exact fun _ => Thin.ref (.skip (h.th)) | exact fun _ => Thin.ref (.skip (.skip (h.th))) | exact fun _ => Thin.ref (.skip (.skip (.skip (h.th)))) | exact fun _ => Thin.ref (.skip (.skip (.skip (.skip (h.th))))) | exact Thin.ref (.skip (h.th)) | exact Thin.ref (.skip (.skip (h.th))) | exact Thin.ref (.skip (.skip (.skip (h.th)))) | exact Thin.ref (.skip (.skip (.skip (.skip (h.th))))) | exact ⟨rfl, oneAll_of rfl⟩ | exact oneAll_of rfl | exact rfl | exact ⟨rfl, rfl, rfl, rfl⟩ | exact ⟨rfl, rfl, rfl, rfl, rfl⟩ | exact ⟨by unfold maxLen; omega, by omega⟩ | omega) ?_ | intro _)); refine VC_can (t := tr_evergreenref12_Add_14) _ _ (by (repeat ((conv => whnf); refine And.intro (by first | exact rfl | exact vint_eq (by omega) | exact vint_eq (by (dsimp only; omega)) | exact vsl_eq (by omega) | exact vsl_eq (by first | (dsimp only; omega) | (simp; done) | (simp; omega))) ?_)); exact trivial) (Thin.ref (.own (by omega) rfl (Thin.refl _))) (add_14 h _ _)
  (conv => whnf)
  refine stop_and ?_ ?_
  · (repeat' ((conv => whnf); first | refine ⟨xs, h.rs _, ?_⟩ | refine ⟨ys, h.rl _, ?_⟩ | refine And.intro (by first | exact o1 | exact o2 | exact fun _ => Thin.ref (.skip (h.th)) | exact fun _ => Thin.ref (.skip (.skip (h.th))) | exact fun _ => Thin.ref (.skip (.skip (.skip (h.th)))) | exact fun _ => Thin.ref (.skip (.skip (.skip (.skip (h.th))))) | exact Thin.ref (.skip (h.th)) | exact Thin.ref (.skip (.skip (h.th))) | exact Thin.ref (.skip (.skip (.skip (h.th)))) | exact Thin.ref (.skip (.skip (.skip (.skip (h.th))))) | exact ⟨rfl, oneAll_of rfl⟩ | exact oneAll_of rfl | exact rfl | exact ⟨rfl, rfl, rfl, rfl⟩ | exact ⟨rfl, rfl, rfl, rfl, rfl⟩ | exact ⟨by unfold maxLen; omega, by omega⟩ | omega) ?_ | intro _)); refine VC_can (t := tr_evergreenref12_Add_18) _ _ (by (repeat ((conv => whnf); refine And.intro (by first | exact rfl | exact vint_eq (by omega) | exact vint_eq (by (dsimp only; omega)) | exact vsl_eq (by omega) | exact vsl_eq (by first | (dsimp only; omega) | (simp; done) | (simp; omega))) ?_)); exact trivial) ((Ref.perm (.swap _ _ _)).trans (Thin.ref (.own (by omega) rfl (.own (by omega) rfl (Thin.refl _))))) (add_18 h _ _ _)
  (conv => whnf)
  refine stop_and ?_ ?_
  · (repeat' ((conv => whnf); first | refine ⟨xs, h.rs _, ?_⟩ | refine ⟨ys, h.rl _, ?_⟩ | refine And.intro (by first | exact o1 | exact o2 | exact fun _ => Thin.ref (.skip (h.th)) | exact fun _ => Thin.ref (.skip (.skip (h.th))) | exact fun _ => Thin.ref (.skip (.skip (.skip (h.th)))) | exact fun _ => Thin.ref (.skip (.skip (.skip (.skip (h.th))))) | exact Thin.ref (.skip (h.th)) | exact Thin.ref (.skip (.skip (h.th))) | exact Thin.ref (.skip (.skip (.skip (h.th)))) | exact Thin.ref (.skip (.skip (.skip (.skip (h.th))))) | exact ⟨rfl, oneAll_of rfl⟩ | exact oneAll_of rfl | exact rfl | exact ⟨rfl, rfl, rfl, rfl⟩ | exact ⟨rfl, rfl, rfl, rfl, rfl⟩ | exact ⟨by unfold maxLen; omega, by omega⟩ | omega) ?_ | intro _)); refine VC_can (t := tr_evergreenref12_Add_20) _ _ (by (repeat ((conv => whnf); refine And.intro (by first | exact rfl | exact vint_eq (by omega) | exact vint_eq (by (dsimp only; omega)) | exact vsl_eq (by omega) | exact vsl_eq (by first | (dsimp only; omega) | (simp; done) | (simp; omega))) ?_)); exact trivial) ((Ref.perm (.swap _ _ _)).trans (Thin.ref (.own (by omega) rfl (.own (by omega) rfl (Thin.refl _))))) (add_20 h _ _ _ _)
  (repeat' ((conv => whnf); first | refine ⟨xs, h.rs _, ?_⟩ | refine ⟨ys, h.rl _, ?_⟩ | refine And.intro (by first | exact o1 | exact o2 | exact fun _ => Thin.ref (.skip (h.th)) | exact fun _ => Thin.ref (.skip (.skip (h.th))) | exact fun _ => Thin.ref (.skip (.skip (.skip (h.th)))) | exact fun _ => Thin.ref (.skip (.skip (.skip (.skip (h.th))))) | exact Thin.ref (.skip (h.th)) | exact Thin.ref (.skip (.skip (h.th))) | exact Thin.ref (.skip (.skip (.skip (h.th)))) | exact Thin.ref (.skip (.skip (.skip (.skip (h.th))))) | exact ⟨rfl, oneAll_of rfl⟩ | exact oneAll_of rfl | exact rfl | exact ⟨rfl, rfl, rfl, rfl⟩ | exact ⟨rfl, rfl, rfl, rfl, rfl⟩ | exact ⟨by unfold maxLen; omega, by omega⟩ | omega) ?_ | intro _)); refine VC_can (t := tr_evergreenref12_Add_21) _ _ (by (repeat ((conv => whnf); refine And.intro (by first | exact rfl | exact vint_eq (by omega) | exact vint_eq (by (dsimp only; omega)) | exact vsl_eq (by omega) | exact vsl_eq (by first | (dsimp only; omega) | (simp; done) | (simp; omega))) ?_)); exact trivial) ((Ref.perm (.swap _ _ _)).trans (Thin.ref (.own (by omega) rfl (.own (by omega) rfl (Thin.refl _))))) (add_21 h _ _ _)

theorem add_23 (h : AddH w K Lb Lh E r N a1 a2 c1 c2 b6 xs ys) : ∀ (q3 : Option Addr) (z1 : Option Addr) (z2 : Nat) (z3 : Option Addr), VT Try.prog w [] ops_evergreenref12_Add_6 K tr_evergreenref12_Add_23 Lb [(31, .sl 31 q3 1 1), (33, .sl 33 z1 0 z2), (38, .sl 38 z3 1 1), (28, .v (.slice a1 E.length c1)), (30, .v (ruV r)), (35, .v (.slice a2 E.length c2)), (37, .v (.int .i64 N)), (44, .v (.int .i64 ((E.length : Int) + 1))), (6, .ptr 6 b6 0)] (.own 31 q3 1 1 ty_api_Rule 5 (ruC r) :: .own 33 z1 0 z2 ty_int 1 [] :: .own 38 z3 1 1 ty_int 1 ([.int .i64 N]) :: Lh) := by
  have hE := h.hE
  have o1 := h.o1
  have o2 := h.o2
  intro q3 z1 z2 z3
  (repeat' ((conv => whnf); first | refine ⟨xs, h.rs _, ?_⟩ | refine ⟨ys, h.rl _, ?_⟩ | refine And.intro (by first | exact o1 | exact o2 | exact fun _ => Thin.ref (.skip (h.th)) | exact fun _ => Thin.ref (.skip (.skip (h.th))) | exact fun _ => Thin.ref (.skip (.skip (.skip (h.th)))) | exact fun _ => Thin.ref (.skip (.skip (.skip (.skip (h.th))))) | exact Thin.ref (.skip (h.th)) | exact Thin.ref (.skip (.skip (h.th))) | exact Thin.ref (.skip (.skip (.skip (h.th)))) | exact Thin.ref (.skip (.skip (.skip (.skip (h.th))))) | exact ⟨rfl, oneAll_of rfl⟩ | exact oneAll_of rfl | exact rfl | exact ⟨rfl, rfl, rfl, rfl⟩ | exact ⟨rfl, rfl, rfl, rfl, rfl⟩ | exact ⟨by unfold maxLen; omega, by omega⟩ | omega) ?_ | intro _)); refine VC_can (t := tr_evergreenref12_Add_15) _ _ (by (repeat ((conv => whnf); refine And.intro (by first | exact rfl | exact vint_eq (by omega) | exact vint_eq (by (dsimp only; omega)) | exact vsl_eq (by omega) | exact vsl_eq (by first | (dsimp only; omega) | (simp; done) | (simp; omega))) ?_)); exact trivial) (Thin.ref (.own (by omega) rfl (.own (by omega) rfl (.own (by omega) rfl (.own (by omega) rfl (Thin.refl _)))))) (add_15 h _ _ _ _ _ _)

theorem add_24 (h : AddH w K Lb Lh E r N a1 a2 c1 c2 b6 xs ys) : ∀ (q3 : Option Addr) (z1 : Option Addr) (z2 : Nat), VT Try.prog w [] ops_evergreenref12_Add_6 K tr_evergreenref12_Add_24 Lb [(31, .sl 31 q3 1 1), (33, .sl 33 z1 0 z2), (28, .v (.slice a1 E.length c1)), (30, .v (ruV r)), (35, .v (.slice a2 E.length c2)), (37, .v (.int .i64 N)), (44, .v (.int .i64 ((E.length : Int) + 1))), (6, .ptr 6 b6 0)] (.own 31 q3 1 1 ty_api_Rule 5 (ruC r) :: .own 33 z1 0 z2 ty_int 1 [] :: Lh) := by
  have hE := h.hE
  have o1 := h.o1
  have o2 := h.o2
  intro q3 z1 z2
  (conv => whnf)
  refine stop_and ?_ ?_
  · (repeat' ((conv => whnf); first | refine ⟨xs, h.rs _, ?_⟩ | refine ⟨ys, h.rl _, ?_⟩ | refine And.intro (by first | exact o1 | exact o2 | exact fun _ => Thin.ref (.skip (h.th)) | exact fun _ => Thin.ref (.skip (.skip (h.th))) | exact fun _ => Thin.ref (.skip (.skip (.skip (h.th)))) | exact fun _ => Thin.ref (.skip (.skip (.skip (.skip (h.th))))) | exact Thin.ref (.skip (h.th)) | exact Thin.ref (.skip (.skip (h.th))) | exact Thin.ref (.skip (.skip (.skip (h.th)))) | exact Thin.ref (.skip (.skip (.skip (.skip (h.th))))) | exact ⟨rfl, oneAll_of rfl⟩ | exact oneAll_of rfl | exact rfl | exact ⟨rfl, rfl, rfl, rfl⟩ | exact ⟨rfl, rfl, rfl, rfl, rfl⟩ | exact ⟨by unfold maxLen; omega, by omega⟩ | omega) ?_ | intro _)); refine VC_can (t := tr_evergreenref12_Add_16) _ _ (by (repeat ((conv => whnf); refine And.intro (by first | exact rfl | exact vint_eq (by omega) | exact vint_eq (by (dsimp only; omega)) | exact vsl_eq (by omega) | exact vsl_eq (by first | (dsimp only; omega) | (simp; done) | (simp; omega))) ?_)); exact trivial) (Thin.ref (.own (by omega) rfl (.own (by omega) rfl (.own (by omega) rfl (Thin.refl _))))) (add_16 h _ _ _ _ _)
  (repeat' ((conv => whnf); first | refine ⟨xs, h.rs _, ?_⟩ | refine ⟨ys, h.rl _, ?_⟩ | refine And.intro (by first | exact o1 | exact o2 | exact fun _ => Thin.ref (.skip (h.th)) | exact fun _ => Thin.ref (.skip (.skip (h.th))) | exact fun _ => Thin.ref (.skip (.skip (.skip (h.th)))) | exact fun _ => Thin.ref (.skip (.skip (.skip (.skip (h.th))))) | exact Thin.ref (.skip (h.th)) | exact Thin.ref (.skip (.skip (h.th))) | exact Thin.ref (.skip (.skip (.skip (h.th)))) | exact Thin.ref (.skip (.skip (.skip (.skip (h.th))))) | exact ⟨rfl, oneAll_of rfl⟩ | exact oneAll_of rfl | exact rfl | exact ⟨rfl, rfl, rfl, rfl⟩ | exact ⟨rfl, rfl, rfl, rfl, rfl⟩ | exact ⟨by unfold maxLen; omega, by omega⟩ | omega) ?_ | intro _)); refine VC_can (t := tr_evergreenref12_Add_23) _ _ (by (repeat ((conv => whnf); refine And.intro (by first | exact rfl | exact vint_eq (by omega) | exact vint_eq (by (dsimp only; omega)) | exact vsl_eq (by omega) | exact vsl_eq (by first | (dsimp only; omega) | (simp; done) | (simp; omega))) ?_)); exact trivial) ((Ref.perm (.trans (.swap _ _ _) (.cons _ (.swap _ _ _)))).trans (Thin.ref (.own (by omega) rfl (.own (by omega) rfl (.own (by omega) rfl (Thin.refl _)))))) (add_23 h _ _ _ _)

theorem add_25 (h : AddH w K Lb Lh E r N a1 a2 c1 c2 b6 xs ys) : ∀ (q3 : Option Addr) (z3 : Option Addr), VT Try.prog w [] ops_evergreenref12_Add_6 K tr_evergreenref12_Add_25 Lb [(31, .sl 31 q3 1 1), (38, .sl 38 z3 1 1), (28, .v (.slice a1 E.length c1)), (30, .v (ruV r)), (35, .v (.slice a2 E.length c2)), (37, .v (.int .i64 N)), (44, .v (.int .i64 ((E.length : Int) + 1))), (6, .ptr 6 b6 0)] (.own 31 q3 1 1 ty_api_Rule 5 (ruC r) :: .own 38 z3 1 1 ty_int 1 ([.int .i64 N]) :: Lh) := by
  have hE := h.hE
  have o1 := h.o1
  have o2 := h.o2
  intro q3 z3
  (conv => whnf)
  refine stop_and ?_ ?_
  · (repeat' ((conv => whnf); first | refine ⟨xs, h.rs _, ?_⟩ | refine ⟨ys, h.rl _, ?_⟩ | refine And.intro (by first | exact o1 | exact o2 | exact fun _ => Thin.ref (.skip (h.th)) | exact fun _ => Thin.ref (.skip (.skip (h.th))) | exact fun _ => Thin.ref (.skip (.skip (.skip (h.th)))) | exact fun _ => Thin.ref (.skip (.skip (.skip (.skip (h.th))))) | exact Thin.ref (.skip (h.th)) | exact Thin.ref (.skip (.skip (h.th))) | exact Thin.ref (.skip (.skip (.skip (h.th)))) | exact Thin.ref (.skip (.skip (.skip (.skip (h.th))))) | exact ⟨rfl, oneAll_of rfl⟩ | exact oneAll_of rfl | exact rfl | exact ⟨rfl, rfl, rfl, rfl⟩ | exact ⟨rfl, rfl, rfl, rfl, rfl⟩ | exact ⟨by unfold maxLen; omega, by omega⟩ | omega) ?_ | intro _)); refine VC_can (t := tr_evergreenref12_Add_17) _ _ (by (repeat ((conv => whnf); refine And.intro (by first | exact rfl | exact vint_eq (by omega) | exact vint_eq (by (dsimp only; omega)) | exact vsl_eq (by omega) | exact vsl_eq (by first | (dsimp only; omega) | (simp; done) | (simp; omega))) ?_)); exact trivial) (Thin.ref (.own (by omega) rfl (.own (by omega) rfl (.own (by omega) rfl (Thin.refl _))))) (add_17 h _ _ _ _)
  (repeat' ((conv => whnf); first | refine ⟨xs, h.rs _, ?_⟩ | refine ⟨ys, h.rl _, ?_⟩ | refine And.intro (by first | exact o1 | exact o2 | exact fun _ => Thin.ref (.skip (h.th)) | exact fun _ => Thin.ref (.skip (.skip (h.th))) | exact fun _ => Thin.ref (.skip (.skip (.skip (h.th)))) | exact fun _ => Thin.ref (.skip (.skip (.skip (.skip (h.th))))) | exact Thin.ref (.skip (h.th)) | exact Thin.ref (.skip (.skip (h.th))) | exact Thin.ref (.skip (.skip (.skip (h.th)))) | exact Thin.ref (.skip (.skip (.skip (.skip (h.th))))) | exact ⟨rfl, oneAll_of rfl⟩ | exact oneAll_of rfl | exact rfl | exact ⟨rfl, rfl, rfl, rfl⟩ | exact ⟨rfl, rfl, rfl, rfl, rfl⟩ | exact ⟨by unfold maxLen; omega, by omega⟩ | omega) ?_ | intro _)); refine VC_can (t := tr_evergreenref12_Add_23) _ _ (by (repeat ((conv => whnf); refine And.intro (by first | exact rfl | exact vint_eq (by omega) | exact vint_eq (by (dsimp only; omega)) | exact vsl_eq (by omega) | exact vsl_eq (by first | (dsimp only; omega) | (simp; done) | (simp; omega))) ?_)); exact trivial) ((Ref.perm (.swap _ _ _)).trans (Thin.ref (.own (by omega) rfl (.own (by omega) rfl (.own (by omega) rfl (Thin.refl _)))))) (add_23 h _ _ _ _)

theorem add_26 (h : AddH w K Lb Lh E r N a1 a2 c1 c2 b6 xs ys) : ∀ (q3 : Option Addr), VT Try.prog w [] ops_evergreenref12_Add_6 K tr_evergreenref12_Add_26 Lb [(31, .sl 31 q3 1 1), (28, .v (.slice a1 E.length c1)), (30, .v (ruV r)), (35, .v (.slice a2 E.length c2)), (37, .v (.int .i64 N)), (44, .v (.int .i64 ((E.length : Int) + 1))), (6, .ptr 6 b6 0)] (.own 31 q3 1 1 ty_api_Rule 5 (ruC r) :: Lh) := by
  have hE := h.hE
  have o1 := h.o1
  have o2 := h.o2
  intro q3
  (conv => whnf)
  refine stop_and ?_ ?_
  · (repeat' ((conv => whnf); first | refine ⟨xs, h.rs _, ?_⟩ | refine ⟨ys, h.rl _, ?_⟩ | refine And.intro (by first | exact o1 | exact o2 | exact fun _ => Thin.ref (.skip (h.th)) | exact fun _ => Thin.ref (.skip (.skip (h.th))) | exact fun _ => Thin.ref (.skip (.skip (.skip (h.th)))) | exact fun _ => Thin.ref (.skip (.skip (.skip (.skip (h.th))))) | exact Thin.ref (.skip (h.th)) | exact Thin.ref (.skip (.skip (h.th))) | exact Thin.ref (.skip (.skip (.skip (h.th)))) | exact Thin.ref (.skip (.skip (.skip (.skip (h.th))))) | exact ⟨rfl, oneAll_of rfl⟩ | exact oneAll_of rfl | exact rfl | exact ⟨rfl, rfl, rfl, rfl⟩ | exact ⟨rfl, rfl, rfl, rfl, rfl⟩ | exact ⟨by unfold maxLen; omega, by omega⟩ | omega) ?_ | intro _)); refine VC_can (t := tr_evergreenref12_Add_18) _ _ (by (repeat ((conv => whnf); refine And.intro (by first | exact rfl | exact vint_eq (by omega) | exact vint_eq (by (dsimp only; omega)) | exact vsl_eq (by omega) | exact vsl_eq (by first | (dsimp only; omega) | (simp; done) | (simp; omega))) ?_)); exact trivial) (Thin.ref (.own (by omega) rfl (.own (by omega) rfl (Thin.refl _)))) (add_18 h _ _ _)
  (conv => whnf)
  refine stop_and ?_ ?_
  · (repeat' ((conv => whnf); first | refine ⟨xs, h.rs _, ?_⟩ | refine ⟨ys, h.rl _, ?_⟩ | refine And.intro (by first | exact o1 | exact o2 | exact fun _ => Thin.ref (.skip (h.th)) | exact fun _ => Thin.ref (.skip (.skip (h.th))) | exact fun _ => Thin.ref (.skip (.skip (.skip (h.th)))) | exact fun _ => Thin.ref (.skip (.skip (.skip (.skip (h.th))))) | exact Thin.ref (.skip (h.th)) | exact Thin.ref (.skip (.skip (h.th))) | exact Thin.ref (.skip (.skip (.skip (h.th)))) | exact Thin.ref (.skip (.skip (.skip (.skip (h.th))))) | exact ⟨rfl, oneAll_of rfl⟩ | exact oneAll_of rfl | exact rfl | exact ⟨rfl, rfl, rfl, rfl⟩ | exact ⟨rfl, rfl, rfl, rfl, rfl⟩ | exact ⟨by unfold maxLen; omega, by omega⟩ | omega) ?_ | intro _)); refine VC_can (t := tr_evergreenref12_Add_24) _ _ (by (repeat ((conv => whnf); refine And.intro (by first | exact rfl | exact vint_eq (by omega) | exact vint_eq (by (dsimp only; omega)) | exact vsl_eq (by omega) | exact vsl_eq (by first | (dsimp only; omega) | (simp; done) | (simp; omega))) ?_)); exact trivial) ((Ref.perm (.swap _ _ _)).trans (Thin.ref (.own (by omega) rfl (.own (by omega) rfl (Thin.refl _))))) (add_24 h _ _ _)
  (repeat' ((conv => whnf); first | refine ⟨xs, h.rs _, ?_⟩ | refine ⟨ys, h.rl _, ?_⟩ | refine And.intro (by first | exact o1 | exact o2 | exact fun _ => Thin.ref (.skip (h.th)) | exact fun _ => Thin.ref (.skip (.skip (h.th))) | exact fun _ => Thin.ref (.skip (.skip (.skip (h.th)))) | exact fun _ => Thin.ref (.skip (.skip (.skip (.skip (h.th))))) | exact Thin.ref (.skip (h.th)) | exact Thin.ref (.skip (.skip (h.th))) | exact Thin.ref (.skip (.skip (.skip (h.th)))) | exact Thin.ref (.skip (.skip (.skip (.skip (h.th))))) | exact ⟨rfl, oneAll_of rfl⟩ | exact oneAll_of rfl | exact rfl | exact ⟨rfl, rfl, rfl, rfl⟩ | exact ⟨rfl, rfl, rfl, rfl, rfl⟩ | exact ⟨by unfold maxLen; omega, by omega⟩ | omega) ?_ | intro _)); refine VC_can (t := tr_evergreenref12_Add_25) _ _ (by (repeat ((conv => whnf); refine And.intro (by first | exact rfl | exact vint_eq (by omega) | exact vint_eq (by (dsimp only; omega)) | exact vsl_eq (by omega) | exact vsl_eq (by first | (dsimp only; omega) | (simp; done) | (simp; omega))) ?_)); exact trivial) ((Ref.perm (.swap _ _ _)).trans (Thin.ref (.own (by omega) rfl (.own (by omega) rfl (Thin.refl _))))) (add_25 h _ _)

theorem add_27 (h : AddH w K Lb Lh E r N a1 a2 c1 c2 b6 xs ys) : ∀ (z1 : Option Addr) (z2 : Nat) (z3 : Option Addr), VT Try.prog w [] ops_evergreenref12_Add_6 K tr_evergreenref12_Add_27 Lb [(33, .sl 33 z1 0 z2), (38, .sl 38 z3 1 1), (28, .v (.slice a1 E.length c1)), (30, .v (ruV r)), (35, .v (.slice a2 E.length c2)), (37, .v (.int .i64 N)), (44, .v (.int .i64 ((E.length : Int) + 1))), (6, .ptr 6 b6 0)] (.own 33 z1 0 z2 ty_int 1 [] :: .own 38 z3 1 1 ty_int 1 ([.int .i64 N]) :: Lh) := by
  have hE := h.hE
  have o1 := h.o1
  have o2 := h.o2
  intro z1 z2 z3
  (conv => whnf)
  refine stop_and ?_ ?_
  · (repeat' ((conv => whnf); first | refine ⟨xs, h.rs _, ?_⟩ | refine ⟨ys, h.rl _, ?_⟩ | refine And.intro (by first | exact o1 | exact o2 | exact fun _ => Thin.ref (.skip (h.th)) | exact fun _ => Thin.ref (.skip (.skip (h.th))) | exact fun _ => Thin.ref (.skip (.skip (.skip (h.th)))) | exact fun _ => Thin.ref (.skip (.skip (.skip (.skip (h.th))))) | exact Thin.ref (.skip (h.th)) | exact Thin.ref (.skip (.skip (h.th))) | exact Thin.ref (.skip (.skip (.skip (h.th)))) | exact Thin.ref (.skip (.skip (.skip (.skip (h.th))))) | exact ⟨rfl, oneAll_of rfl⟩ | exact oneAll_of rfl | exact rfl | exact ⟨rfl, rfl, rfl, rfl⟩ | exact ⟨rfl, rfl, rfl, rfl, rfl⟩ | exact ⟨by unfold maxLen; omega, by omega⟩ | omega) ?_ | intro _)); refine VC_can (t := tr_evergreenref12_Add_19) _ _ (by (repeat ((conv => whnf); refine And.intro (by first | exact rfl | exact vint_eq (by omega) | exact vint_eq (by (dsimp only; omega)) | exact vsl_eq (by omega) | exact vsl_eq (by first | (dsimp only; omega) | (simp; done) | (simp; omega))) ?_)); exact trivial) (Thin.ref (.own (by omega) rfl (.own (by omega) rfl (.own (by omega) rfl (Thin.refl _))))) (add_19 h _ _ _ _ _)
  (repeat' ((conv => whnf); first | refine ⟨xs, h.rs _, ?_⟩ | refine ⟨ys, h.rl _, ?_⟩ | refine And.intro (by first | exact o1 | exact o2 | exact fun _ => Thin.ref (.skip (h.th)) | exact fun _ => Thin.ref (.skip (.skip (h.th))) | exact fun _ => Thin.ref (.skip (.skip (.skip (h.th)))) | exact fun _ => Thin.ref (.skip (.skip (.skip (.skip (h.th))))) | exact Thin.ref (.skip (h.th)) | exact Thin.ref (.skip (.skip (h.th))) | exact Thin.ref (.skip (.skip (.skip (h.th)))) | exact Thin.ref (.skip (.skip (.skip (.skip (h.th))))) | exact ⟨rfl, oneAll_of rfl⟩ | exact oneAll_of rfl | exact rfl | exact ⟨rfl, rfl, rfl, rfl⟩ | exact ⟨rfl, rfl, rfl, rfl, rfl⟩ | exact ⟨by unfold maxLen; omega, by omega⟩ | omega) ?_ | intro _)); refine VC_can (t := tr_evergreenref12_Add_23) _ _ (by (repeat ((conv => whnf); refine And.intro (by first | exact rfl | exact vint_eq (by omega) | exact vint_eq (by (dsimp only; omega)) | exact vsl_eq (by omega) | exact vsl_eq (by first | (dsimp only; omega) | (simp; done) | (simp; omega))) ?_)); exact trivial) (Thin.ref (.own (by omega) rfl (.own (by omega) rfl (.own (by omega) rfl (Thin.refl _))))) (add_23 h _ _ _ _)

theorem add_28 (h : AddH w K Lb Lh E r N a1 a2 c1 c2 b6 xs ys) : ∀ (z1 : Option Addr) (z2 : Nat), VT Try.prog w [] ops_evergreenref12_Add_6 K tr_evergreenref12_Add_28 Lb [(33, .sl 33 z1 0 z2), (28, .v (.slice a1 E.length c1)), (30, .v (ruV r)), (35, .v (.slice a2 E.length c2)), (37, .v (.int .i64 N)), (44, .v (.int .i64 ((E.length : Int) + 1))), (6, .ptr 6 b6 0)] (.own 33 z1 0 z2 ty_int 1 [] :: Lh) := by
  have hE := h.hE
  have o1 := h.o1
  have o2 := h.o2
  intro z1 z2
  (conv => whnf)
  refine stop_and ?_ ?_
  · (repeat' ((conv => whnf); first | refine ⟨xs, h.rs _, ?_⟩ | refine ⟨ys, h.rl _, ?_⟩ | refine And.intro (by first | exact o1 | exact o2 | exact fun _ => Thin.ref (.skip (h.th)) | exact fun _ => Thin.ref (.skip (.skip (h.th))) | exact fun _ => Thin.ref (.skip (.skip (.skip (h.th)))) | exact fun _ => Thin.ref (.skip (.skip (.skip (.skip (h.th))))) | exact Thin.ref (.skip (h.th)) | exact Thin.ref (.skip (.skip (h.th))) | exact Thin.ref (.skip (.skip (.skip (h.th)))) | exact Thin.ref (.skip (.skip (.skip (.skip (h.th))))) | exact ⟨rfl, oneAll_of rfl⟩ | exact oneAll_of rfl | exact rfl | exact ⟨rfl, rfl, rfl, rfl⟩ | exact ⟨rfl, rfl, rfl, rfl, rfl⟩ | exact ⟨by unfold maxLen; omega, by omega⟩ | omega) ?_ | intro _)); refine VC_can (t := tr_evergreenref12_Add_20) _ _ (by (repeat ((conv => whnf); refine And.intro (by first | exact rfl | exact vint_eq (by omega) | exact vint_eq (by (dsimp only; omega)) | exact vsl_eq (by omega) | exact vsl_eq (by first | (dsimp only; omega) | (simp; done) | (simp; omega))) ?_)); exact trivial) (Thin.ref (.own (by omega) rfl (.own (by omega) rfl (Thin.refl _)))) (add_20 h _ _ _ _)
  (conv => whnf)
  refine stop_and ?_ ?_
  · (repeat' ((conv => whnf); first | refine ⟨xs, h.rs _, ?_⟩ | refine ⟨ys, h.rl _, ?_⟩ | refine And.intro (by first | exact o1 | exact o2 | exact fun _ => Thin.ref (.skip (h.th)) | exact fun _ => Thin.ref (.skip (.skip (h.th))) | exact fun _ => Thin.ref (.skip (.skip (.skip (h.th)))) | exact fun _ => Thin.ref (.skip (.skip (.skip (.skip (h.th))))) | exact Thin.ref (.skip (h.th)) | exact Thin.ref (.skip (.skip (h.th))) | exact Thin.ref (.skip (.skip (.skip (h.th)))) | exact Thin.ref (.skip (.skip (.skip (.skip (h.th))))) | exact ⟨rfl, oneAll_of rfl⟩ | exact oneAll_of rfl | exact rfl | exact ⟨rfl, rfl, rfl, rfl⟩ | exact ⟨rfl, rfl, rfl, rfl, rfl⟩ | exact ⟨by unfold maxLen; omega, by omega⟩ | omega) ?_ | intro _)); refine VC_can (t := tr_evergreenref12_Add_24) _ _ (by (repeat ((conv => whnf); refine And.intro (by first | exact rfl | exact vint_eq (by omega) | exact vint_eq (by (dsimp only; omega)) | exact vsl_eq (by omega) | exact vsl_eq (by first | (dsimp only; omega) | (simp; done) | (simp; omega))) ?_)); exact trivial) (Thin.ref (.own (by omega) rfl (.own (by omega) rfl (Thin.refl _)))) (add_24 h _ _ _)
  (repeat' ((conv => whnf); first | refine ⟨xs, h.rs _, ?_⟩ | refine ⟨ys, h.rl _, ?_⟩ | refine And.intro (by first | exact o1 | exact o2 | exact fun _ => Thin.ref (.skip (h.th)) | exact fun _ => Thin.ref (.skip (.skip (h.th))) | exact fun _ => Thin.ref (.skip (.skip (.skip (h.th)))) | exact fun _ => Thin.ref (.skip (.skip (.skip (.skip (h.th))))) | exact Thin.ref (.skip (h.th)) | exact Thin.ref (.skip (.skip (h.th))) | exact Thin.ref (.skip (.skip (.skip (h.th)))) | exact Thin.ref (.skip (.skip (.skip (.skip (h.th))))) | exact ⟨rfl, oneAll_of rfl⟩ | exact oneAll_of rfl | exact rfl | exact ⟨rfl, rfl, rfl, rfl⟩ | exact ⟨rfl, rfl, rfl, rfl, rfl⟩ | exact ⟨by unfold maxLen; omega, by omega⟩ | omega) ?_ | intro _)); refine VC_can (t := tr_evergreenref12_Add_27) _ _ (by (repeat ((conv => whnf); refine And.intro (by first | exact rfl | exact vint_eq (by omega) | exact vint_eq (by (dsimp only; omega)) | exact vsl_eq (by omega) | exact vsl_eq (by first | (dsimp only; omega) | (simp; done) | (simp; omega))) ?_)); exact trivial) ((Ref.perm (.swap _ _ _)).trans (Thin.ref (.own (by omega) rfl (.own (by omega) rfl (Thin.refl _))))) (add_27 h _ _ _)

theorem add_29 (h : AddH w K Lb Lh E r N a1 a2 c1 c2 b6 xs ys) : ∀ (z3 : Option Addr), VT Try.prog w [] ops_evergreenref12_Add_6 K tr_evergreenref12_Add_29 Lb [(38, .sl 38 z3 1 1), (28, .v (.slice a1 E.length c1)), (30, .v (ruV r)), (35, .v (.slice a2 E.length c2)), (37, .v (.int .i64 N)), (44, .v (.int .i64 ((E.length : Int) + 1))), (6, .ptr 6 b6 0)] (.own 38 z3 1 1 ty_int 1 ([.int .i64 N]) :: Lh) := by
  have hE := h.hE
  have o1 := h.o1
  have o2 := h.o2
  intro z3
  (conv => whnf)
  refine stop_and ?_ ?_
  · (repeat' ((conv => whnf); first | refine ⟨xs, h.rs _, ?_⟩ | refine ⟨ys, h.rl _, ?_⟩ | refine And.intro (by first | exact o1 | exact o2 | exact fun _ => Thin.ref (.skip (h.th)) | exact fun _ => Thin.ref (.skip (.skip (h.th))) | exact fun _ => Thin.ref (.skip (.skip (.skip (h.th)))) | exact fun _ => Thin.ref (.skip (.skip (.skip (.skip (h.th))))) | exact Thin.ref (.skip (h.th)) | exact Thin.ref (.skip (.skip (h.th))) | exact Thin.ref (.skip (.skip (.skip (h.th)))) | exact Thin.ref (.skip (.skip (.skip (.skip (h.th))))) | exact ⟨rfl, oneAll_of rfl⟩ | exact oneAll_of rfl | exact rfl | exact ⟨rfl, rfl, rfl, rfl⟩ | exact ⟨rfl, rfl, rfl, rfl, rfl⟩ | exact ⟨by unfold maxLen; omega, by omega⟩ | omega) ?_ | intro _)); refine VC_can (t := tr_evergreenref12_Add_21) _ _ (by (repeat ((conv => whnf); refine And.intro (by first | exact rfl | exact vint_eq (by omega) | exact vint_eq (by (dsimp only; omega)) | exact vsl_eq (by omega) | exact vsl_eq (by first | (dsimp only; omega) | (simp; done) | (simp; omega))) ?_)); exact trivial) (Thin.ref (.own (by omega) rfl (.own (by omega) rfl (Thin.refl _)))) (add_21 h _ _ _)
  (conv => whnf)
  refine stop_and ?_ ?_
  · (repeat' ((conv => whnf); first | refine ⟨xs, h.rs _, ?_⟩ | refine ⟨ys, h.rl _, ?_⟩ | refine And.intro (by first | exact o1 | exact o2 | exact fun _ => Thin.ref (.skip (h.th)) | exact fun _ => Thin.ref (.skip (.skip (h.th))) | exact fun _ => Thin.ref (.skip (.skip (.skip (h.th)))) | exact fun _ => Thin.ref (.skip (.skip (.skip (.skip (h.th))))) | exact Thin.ref (.skip (h.th)) | exact Thin.ref (.skip (.skip (h.th))) | exact Thin.ref (.skip (.skip (.skip (h.th)))) | exact Thin.ref (.skip (.skip (.skip (.skip (h.th))))) | exact ⟨rfl, oneAll_of rfl⟩ | exact oneAll_of rfl | exact rfl | exact ⟨rfl, rfl, rfl, rfl⟩ | exact ⟨rfl, rfl, rfl, rfl, rfl⟩ | exact ⟨by unfold maxLen; omega, by omega⟩ | omega) ?_ | intro _)); refine VC_can (t := tr_evergreenref12_Add_25) _ _ (by (repeat ((conv => whnf); refine And.intro (by first | exact rfl | exact vint_eq (by omega) | exact vint_eq (by (dsimp only; omega)) | exact vsl_eq (by omega) | exact vsl_eq (by first | (dsimp only; omega) | (simp; done) | (simp; omega))) ?_)); exact trivial) (Thin.ref (.own (by omega) rfl (.own (by omega) rfl (Thin.refl _)))) (add_25 h _ _)
  (repeat' ((conv => whnf); first | refine ⟨xs, h.rs _, ?_⟩ | refine ⟨ys, h.rl _, ?_⟩ | refine And.intro (by first | exact o1 | exact o2 | exact fun _ => Thin.ref (.skip (h.th)) | exact fun _ => Thin.ref (.skip (.skip (h.th))) | exact fun _ => Thin.ref (.skip (.skip (.skip (h.th)))) | exact fun _ => Thin.ref (.skip (.skip (.skip (.skip (h.th))))) | exact Thin.ref (.skip (h.th)) | exact Thin.ref (.skip (.skip (h.th))) | exact Thin.ref (.skip (.skip (.skip (h.th)))) | exact Thin.ref (.skip (.skip (.skip (.skip (h.th))))) | exact ⟨rfl, oneAll_of rfl⟩ | exact oneAll_of rfl | exact rfl | exact ⟨rfl, rfl, rfl, rfl⟩ | exact ⟨rfl, rfl, rfl, rfl, rfl⟩ | exact ⟨by unfold maxLen; omega, by omega⟩ | omega) ?_ | intro _)); refine VC_can (t := tr_evergreenref12_Add_27) _ _ (by (repeat ((conv => whnf); refine And.intro (by first | exact rfl | exact vint_eq (by omega) | exact vint_eq (by (dsimp only; omega)) | exact vsl_eq (by omega) | exact vsl_eq (by first | (dsimp only; omega) | (simp; done) | (simp; omega))) ?_)); exact trivial) (Thin.ref (.own (by omega) rfl (.own (by omega) rfl (Thin.refl _)))) (add_27 h _ _ _)

theorem add_30 (h : AddH w K Lb Lh E r N a1 a2 c1 c2 b6 xs ys) : VT Try.prog w [] ops_evergreenref12_Add_6 K tr_evergreenref12_Add_30 Lb [(28, .v (.slice a1 E.length c1)), (30, .v (ruV r)), (35, .v (.slice a2 E.length c2)), (37, .v (.int .i64 N)), (44, .v (.int .i64 ((E.length : Int) + 1))), (6, .ptr 6 b6 0)] (Lh) := by
  have hE := h.hE
  have o1 := h.o1
  have o2 := h.o2

  (conv => whnf)
  refine stop_and ?_ ?_
  · (repeat' ((conv => whnf); first | refine ⟨xs, h.rs _, ?_⟩ | refine ⟨ys, h.rl _, ?_⟩ | refine And.intro (by first | exact o1 | exact o2 | exact fun _ => Thin.ref (.skip (h.th)) | exact fun _ => Thin.ref (.skip (.skip (h.th))) | exact fun _ => Thin.ref (.skip (.skip (.skip (h.th)))) | exact fun _ => Thin.ref (.skip (.skip (.skip (.skip (h.th))))) | exact Thin.ref (.skip (h.th)) | exact Thin.ref (.skip (.skip (h.th))) | exact Thin.ref (.skip (.skip (.skip (h.th)))) | exact Thin.ref (.skip (.skip (.skip (.skip (h.th))))) | exact ⟨rfl, oneAll_of rfl⟩ | exact oneAll_of rfl | exact rfl | exact ⟨rfl, rfl, rfl, rfl⟩ | exact ⟨rfl, rfl, rfl, rfl, rfl⟩ | exact ⟨by unfold maxLen; omega, by omega⟩ | omega) ?_ | intro _)); refine VC_can (t := tr_evergreenref12_Add_22) _ _ (by (repeat ((conv => whnf); refine And.intro (by first | exact rfl | exact vint_eq (by omega) | exact vint_eq (by (dsimp only; omega)) | exact vsl_eq (by omega) | exact vsl_eq (by first | (dsimp only; omega) | (simp; done) | (simp; omega))) ?_)); exact trivial) (Thin.ref (.own (by omega) rfl (Thin.refl _))) (add_22 h _ _)
  (conv => whnf)
  refine stop_and ?_ ?_
  · (repeat' ((conv => whnf); first | refine ⟨xs, h.rs _, ?_⟩ | refine ⟨ys, h.rl _, ?_⟩ | refine And.intro (by first | exact o1 | exact o2 | exact fun _ => Thin.ref (.skip (h.th)) | exact fun _ => Thin.ref (.skip (.skip (h.th))) | exact fun _ => Thin.ref (.skip (.skip (.skip (h.th)))) | exact fun _ => Thin.ref (.skip (.skip (.skip (.skip (h.th))))) | exact Thin.ref (.skip (h.th)) | exact Thin.ref (.skip (.skip (h.th))) | exact Thin.ref (.skip (.skip (.skip (h.th)))) | exact Thin.ref (.skip (.skip (.skip (.skip (h.th))))) | exact ⟨rfl, oneAll_of rfl⟩ | exact oneAll_of rfl | exact rfl | exact ⟨rfl, rfl, rfl, rfl⟩ | exact ⟨rfl, rfl, rfl, rfl, rfl⟩ | exact ⟨by unfold maxLen; omega, by omega⟩ | omega) ?_ | intro _)); refine VC_can (t := tr_evergreenref12_Add_26) _ _ (by (repeat ((conv => whnf); refine And.intro (by first | exact rfl | exact vint_eq (by omega) | exact vint_eq (by (dsimp only; omega)) | exact vsl_eq (by omega) | exact vsl_eq (by first | (dsimp only; omega) | (simp; done) | (simp; omega))) ?_)); exact trivial) (Thin.ref (.own (by omega) rfl (Thin.refl _))) (add_26 h _)
  (conv => whnf)
  refine stop_and ?_ ?_
  · (repeat' ((conv => whnf); first | refine ⟨xs, h.rs _, ?_⟩ | refine ⟨ys, h.rl _, ?_⟩ | refine And.intro (by first | exact o1 | exact o2 | exact fun _ => Thin.ref (.skip (h.th)) | exact fun _ => Thin.ref (.skip (.skip (h.th))) | exact fun _ => Thin.ref (.skip (.skip (.skip (h.th)))) | exact fun _ => Thin.ref (.skip (.skip (.skip (.skip (h.th))))) | exact Thin.ref (.skip (h.th)) | exact Thin.ref (.skip (.skip (h.th))) | exact Thin.ref (.skip (.skip (.skip (h.th)))) | exact Thin.ref (.skip (.skip (.skip (.skip (h.th))))) | exact ⟨rfl, oneAll_of rfl⟩ | exact oneAll_of rfl | exact rfl | exact ⟨rfl, rfl, rfl, rfl⟩ | exact ⟨rfl, rfl, rfl, rfl, rfl⟩ | exact ⟨by unfold maxLen; omega, by omega⟩ | omega) ?_ | intro _)); refine VC_can (t := tr_evergreenref12_Add_28) _ _ (by (repeat ((conv => whnf); refine And.intro (by first | exact rfl | exact vint_eq (by omega) | exact vint_eq (by (dsimp only; omega)) | exact vsl_eq (by omega) | exact vsl_eq (by first | (dsimp only; omega) | (simp; done) | (simp; omega))) ?_)); exact trivial) (Thin.ref (.own (by omega) rfl (Thin.refl _))) (add_28 h _ _)
  (repeat' ((conv => whnf); first | refine ⟨xs, h.rs _, ?_⟩ | refine ⟨ys, h.rl _, ?_⟩ | refine And.intro (by first | exact o1 | exact o2 | exact fun _ => Thin.ref (.skip (h.th)) | exact fun _ => Thin.ref (.skip (.skip (h.th))) | exact fun _ => Thin.ref (.skip (.skip (.skip (h.th)))) | exact fun _ => Thin.ref (.skip (.skip (.skip (.skip (h.th))))) | exact Thin.ref (.skip (h.th)) | exact Thin.ref (.skip (.skip (h.th))) | exact Thin.ref (.skip (.skip (.skip (h.th)))) | exact Thin.ref (.skip (.skip (.skip (.skip (h.th))))) | exact ⟨rfl, oneAll_of rfl⟩ | exact oneAll_of rfl | exact rfl | exact ⟨rfl, rfl, rfl, rfl⟩ | exact ⟨rfl, rfl, rfl, rfl, rfl⟩ | exact ⟨by unfold maxLen; omega, by omega⟩ | omega) ?_ | intro _)); refine VC_can (t := tr_evergreenref12_Add_29) _ _ (by (repeat ((conv => whnf); refine And.intro (by first | exact rfl | exact vint_eq (by omega) | exact vint_eq (by (dsimp only; omega)) | exact vsl_eq (by omega) | exact vsl_eq (by first | (dsimp only; omega) | (simp; done) | (simp; omega))) ?_)); exact trivial) (Thin.ref (.own (by omega) rfl (Thin.refl _))) (add_29 h _)

end
end Go.Proofs.Ytohlphngnhcbfaa
/- A rule is added to the reference's list. -/
namespace Go.Proofs.Ytohlphngnhcbfaa
open Go.EG
attribute [local irreducible] CallK QCall Go.Calls
set_option linter.unusedSimpArgs false
set_option linter.unusedVariables false
set_option maxRecDepth 20000
set_option maxHeartbeats 4000000

theorem rul_ext {r r' : Rul} (h : r ≠ r') : ¬ (r.k = r'.k ∧ r.l = r'.l ∧ r.a = r'.a ∧ r.b = r'.b ∧ r.t = r'.t) := fun ⟨h1, h2, h3, h4, h5⟩ => h (by cases r; cases r'; simp_all)
theorem calls_rAdd {a1 a2 : Option Addr} {c1 c2 : Nat} (E : List Entr) (hE : E.length ≤ 1048576) (r : Rul) (n : Nat) (hn : (mkT E r).len = n) (w : World) (h1 : In w [] a1 (ruE E)) (h2 : In w [] a2 (leE E)) :
    Calls Try.prog fn_evergreenref12_Add #[stV E.length a1 c1 a2 c2, ruV r, .int .i64 n] w fun e w' => ∃ v L1, e = .returned v ∧ R w [] L1 w' ∧ oneQ E (putF E r).1 (putF E r).2 a1 c1 a2 c2 v L1 := by
  refine new_call [.v (stV E.length a1 c1 a2 c2), .v (ruV r), .v (.int .i64 n)] ok_evergreenref12_Add (by simp) ?_
  have rs := fun {L : List Ent} => h1.rds (L := L) (n := E.length * 5) (by rw [ruE_length])
  have rl := fun {L : List Ent} => h2.rds (L := L) (n := E.length * 1) (by rw [leE_length, Nat.mul_one])
  have o1 := oneAll_ru E
  have o2 : oneAll (leE E) := oneAll_ints' .i64 (lensI (E.map (·.m)))
  have s1 := ruE_snoc E (mkE E r)
  have s2 := leE_snoc E (mkE E r)
  rw [show (mkE E r).r = r from rfl] at s1
  rw [show (mkE E r).m = mkT E r from rfl, hn] at s2
  have hlen : (E ++ [mkE E r]).length = E.length + 1 := by simp
  have hne : ∀ i, i < E.length → a1 ≠ none := fun i hi => h1.ne' (k := i * 5) (by rw [ruE_length]; omega)
  have hrd := fun {L : List Ent} (i : Nat) (hi : i < E.length) => In.rdn (L := L) (vs := ruC (E.getD i ent0).r) (k := i * 5) h1 (Nat.succ_pos _) (ruE_at hi)
  (repeat' ((conv => whnf); first | (refine bcase_prop (fun h => ?_) (fun h => ?_) <;> try (exfalso; omega)) | (refine bcase_nprop (fun h => ?_) (fun h => ?_) <;> try (exfalso; omega)) | (refine bcase_intro (fun h => ?_) (fun h => ?_) <;> (try simp only [Bool.not_eq_true', Bool.not_eq_false', decide_eq_true_eq, decide_eq_false_iff_not, Bool.not_eq_true, Bool.not_eq_false, Decidable.not_not] at h)) | refine And.intro (by first | omega | exact rfl | assumption | exact ⟨rfl, rfl, rfl, rfl, rfl⟩ | exact ⟨rfl, rfl, rfl, rfl⟩ | exact ⟨rfl, by omega⟩ | exact oneAll_of rfl | exact ⟨rfl, oneAll_of rfl⟩ | exact Ref.refl _ | exact Thin.ref (.skip (Thin.refl _)) | exact Thin.ref (.skip (.skip (Thin.refl _))) | exact ⟨rfl, Nat.le_of_ble_eq_true rfl⟩ | ((try unfold maxLen); (try simp only [List.length_nil, List.length_cons, List.length_append]); omega) | (refine ⟨rfl, ?_⟩; (try simp only [List.length_nil, List.length_cons, List.length_append]); omega)) ?_ | intro _)); (all_goals (conv => whnf))
  rename_i b3 b4 b6
  refine VC_loop Nat (fun i => [(2, .v (.int .i64 n)), (3, .ptr 3 b3 0), (4, .ptr 4 b4 0), (6, .ptr 6 b6 0), (7, .v (.int .i64 0)), (8, .v (.int .i64 i))]) (fun _ => [.box 6 b6 [.slice none 0 0, .slice none 0 0] ty_evergreenref12_Store, .box 4 b4 (ruC r) ty_api_Rule, .box 3 b3 [.slice a1 E.length c1, .slice a2 E.length c2] ty_evergreenref12_Store])
    (fun i => i ≤ E.length ∧ idOf r E = idx r i (E.drop i)) (fun i => E.length - i) 0 ⟨Nat.zero_le _, rfl⟩ (by (repeat ((conv => whnf); refine And.intro (by first | exact rfl | exact vint_eq (by omega) | exact vint_eq (by (dsimp only; omega)) | exact vsl_eq (by omega) | exact vsl_eq (by first | (dsimp only; omega) | (simp; done) | (simp; omega))) ?_)); exact trivial) (.refl _) ?_
  rintro i ⟨hi, hid⟩
  by_cases hlt : i < E.length
  · rw [drop_cons (d := ent0) hlt] at hid
    have hr := fun {L : List Ent} => hrd (L := L) i hlt
    have hn0 := hne i hlt
    by_cases hx : (E.getD i ent0).r = r
    · have hid : idOf r E = i + 1 := hid.trans (if_pos hx.symm)
      rw [hx] at hr
      have hp : putF E r = (E, ((idOf r E : Nat) : Int)) := if_neg (by omega)
      rw [hp]
      (repeat' ((conv => whnf); first | rw [Int.toNat_natCast] | refine ⟨ruC r, rfl, hr, ?_⟩ | refine ⟨.v _, ⟨rfl, trivial⟩, ?_⟩ | (refine bcase_prop (fun h => ?_) (fun h => ?_) <;> try (exfalso; omega)) | (refine bcase_nprop (fun h => ?_) (fun h => ?_) <;> try (exfalso; omega)) | (refine bcase_intro (fun h => ?_) (fun h => ?_) <;> (try simp only [Bool.not_eq_true', Bool.not_eq_false', decide_eq_true_eq, decide_eq_false_iff_not, Bool.not_eq_true, Bool.not_eq_false, Decidable.not_not] at h)) | refine And.intro (by first | omega | exact rfl | assumption | exact ⟨rfl, rfl, rfl, rfl, rfl⟩ | exact ⟨rfl, rfl, rfl, rfl⟩ | exact ⟨rfl, by omega⟩ | exact oneAll_of rfl | exact ⟨rfl, oneAll_of rfl⟩ | exact Ref.refl _ | exact Thin.ref (.skip (Thin.refl _)) | exact Thin.ref (.skip (.skip (Thin.refl _))) | exact ⟨rfl, Nat.le_of_ble_eq_true rfl⟩ | ((try unfold maxLen); (try simp only [List.length_nil, List.length_cons, List.length_append]); omega) | (refine ⟨rfl, ?_⟩; (try simp only [List.length_nil, List.length_cons, List.length_append]); omega)) ?_ | intro _)); (all_goals (conv => whnf))
      refine ⟨endOld rfl ?_⟩
      rw [hid]; rfl
    · have hid : idOf r E = idx r (i + 1) (E.drop (i + 1)) := hid.trans (if_neg (fun h => hx h.symm))
      have hx' := rul_ext hx
      generalize (E.getD i ent0).r = q at *
      (repeat' ((conv => whnf); first | rw [Int.toNat_natCast] | refine ⟨ruC q, rfl, hr, ?_⟩ | refine ⟨.v _, ⟨rfl, trivial⟩, ?_⟩ | (refine bcase_prop (fun h => ?_) (fun h => ?_) <;> try (exfalso; omega)) | (refine bcase_nprop (fun h => ?_) (fun h => ?_) <;> try (exfalso; omega)) | (refine bcase_intro (fun h => ?_) (fun h => ?_) <;> (try simp only [Bool.not_eq_true', Bool.not_eq_false', decide_eq_true_eq, decide_eq_false_iff_not, Bool.not_eq_true, Bool.not_eq_false, Decidable.not_not] at h)) | refine And.intro (by first | omega | exact rfl | assumption | exact ⟨rfl, rfl, rfl, rfl, rfl⟩ | exact ⟨rfl, rfl, rfl, rfl⟩ | exact ⟨rfl, by omega⟩ | exact oneAll_of rfl | exact ⟨rfl, oneAll_of rfl⟩ | exact Ref.refl _ | exact Thin.ref (.skip (Thin.refl _)) | exact Thin.ref (.skip (.skip (Thin.refl _))) | exact ⟨rfl, Nat.le_of_ble_eq_true rfl⟩ | ((try unfold maxLen); (try simp only [List.length_nil, List.length_cons, List.length_append]); omega) | (refine ⟨rfl, ?_⟩; (try simp only [List.length_nil, List.length_cons, List.length_append]); omega)) ?_ | intro _)); (all_goals (conv => whnf))
      all_goals (refine loop_next (i + 1) ⟨hlt, hid⟩ (by ((try dsimp only); omega)) (by (repeat ((conv => whnf); refine And.intro (by first | exact rfl | exact vint_eq (by omega) | exact vint_eq (by (dsimp only; omega)) | exact vsl_eq (by omega) | exact vsl_eq (by first | (dsimp only; omega) | (simp; done) | (simp; omega))) ?_)); exact trivial) (Thin.ref (by (repeat (first | exact Thin.nil _ | exact Thin.refl _ | refine Thin.keep rfl (fun _ h => h) ?_ | refine Thin.skip ?_)))))
  · rw [show E.drop i = [] from List.drop_eq_nil_of_le (by omega)] at hid
    have hid : idOf r E = 0 := hid
    have hp : putF E r = (E ++ [mkE E r], ((E.length + 1 : Nat) : Int)) := if_pos hid
    rw [hp]
    clear hne hrd hid hp
    have lx : (ruE E).length = E.length * 5 := ruE_length E
    generalize ruE E = xs at *
    generalize leE E = ys at *
    (repeat' ((conv => whnf); first | refine VC_drop 6 ?_ | refine ⟨.v _, ⟨rfl, trivial⟩, ?_⟩ | (refine bcase_prop (fun h => ?_) (fun h => ?_) <;> try (exfalso; omega)) | (refine bcase_nprop (fun h => ?_) (fun h => ?_) <;> try (exfalso; omega)) | (refine bcase_intro (fun h => ?_) (fun h => ?_) <;> (try simp only [Bool.not_eq_true', Bool.not_eq_false', decide_eq_true_eq, decide_eq_false_iff_not, Bool.not_eq_true, Bool.not_eq_false, Decidable.not_not] at h)) | refine And.intro (by first | omega | exact rfl | assumption | exact ⟨rfl, rfl, rfl, rfl, rfl⟩ | exact ⟨rfl, rfl, rfl, rfl⟩ | exact ⟨rfl, by omega⟩ | exact oneAll_of rfl | exact ⟨rfl, oneAll_of rfl⟩ | exact Ref.refl _ | exact Thin.ref (.skip (Thin.refl _)) | exact Thin.ref (.skip (.skip (Thin.refl _))) | exact ⟨rfl, Nat.le_of_ble_eq_true rfl⟩ | ((try unfold maxLen); (try simp only [List.length_nil, List.length_cons, List.length_append]); omega) | (refine ⟨rfl, ?_⟩; (try simp only [List.length_nil, List.length_cons, List.length_append]); omega)) ?_ | intro _)); (all_goals (conv => whnf))
    refine VC_can _ _ (by (repeat ((conv => whnf); refine And.intro (by first | exact rfl | exact vint_eq (by omega) | exact vint_eq (by (dsimp only; omega)) | exact vsl_eq (by omega) | exact vsl_eq (by first | (dsimp only; omega) | (simp; done) | (simp; omega))) ?_)); exact trivial) (Ref.refl _) (add_30 (E := E) (r := r) (N := n) (a1 := a1) (a2 := a2) (c1 := c1) (c2 := c2) (b6 := b6) (xs := xs) (ys := ys) ⟨hE, Thin.skip (Thin.refl _), o1, o2, fun L => rs, fun L => rl, lx, ?_⟩)
    intro q1 q2 z1 z2
    (repeat' ((conv => whnf); first | (refine bcase_prop (fun h => ?_) (fun h => ?_) <;> try (exfalso; omega)) | (refine bcase_nprop (fun h => ?_) (fun h => ?_) <;> try (exfalso; omega)) | (refine bcase_intro (fun h => ?_) (fun h => ?_) <;> (try simp only [Bool.not_eq_true', Bool.not_eq_false', decide_eq_true_eq, decide_eq_false_iff_not, Bool.not_eq_true, Bool.not_eq_false, Decidable.not_not] at h)) | refine And.intro (by first | omega | exact rfl | assumption | exact ⟨rfl, rfl, rfl, rfl, rfl⟩ | exact ⟨rfl, rfl, rfl, rfl⟩ | exact ⟨rfl, by omega⟩ | exact oneAll_of rfl | exact ⟨rfl, oneAll_of rfl⟩ | exact Ref.refl _ | exact Thin.ref (.skip (Thin.refl _)) | exact Thin.ref (.skip (.skip (Thin.refl _))) | exact Thin.ref (.skip (.skip (.skip (Thin.refl _)))) | exact ⟨rfl, Nat.le_of_ble_eq_true rfl⟩ | ((try unfold maxLen); (try simp only [List.length_nil, List.length_cons, List.length_append]); omega) | (refine ⟨rfl, ?_⟩; (try simp only [List.length_nil, List.length_cons, List.length_append]); omega)) ?_ | intro _)); (all_goals (conv => whnf))
    all_goals exact ⟨endNew 26 33 rfl rfl (by rw [hlen]) (by rw [← s1]) (by rw [hlen]) (by rw [← s2]) (by omega) rfl⟩
end Go.Proofs.Ytohlphngnhcbfaa
/- Lists of makes: one make, a list, by the reference. -/
namespace Go.Proofs.Ytohlphngnhcbfaa
open Go.EG
attribute [local irreducible] CallK QCall Go.Calls
set_option linter.unusedSimpArgs false
set_option linter.unusedVariables false
set_option maxRecDepth 20000
set_option maxHeartbeats 4000000

/-- A make's fields. -/
structure MakB (m : Rul) : Prop where
  k : -9223372036854775808 ≤ m.k ∧ m.k ≤ 9223372036854775807
  l : 0 ≤ m.l ∧ m.l < 256
  a : -9223372036854775808 ≤ m.a ∧ m.a ≤ 9223372036854775807
  b : -9223372036854775808 ≤ m.b ∧ m.b ≤ 9223372036854775807
  t : -9223372036854775808 ≤ m.t ∧ m.t ≤ 9223372036854775807
structure MIn (g : List Rul) : Prop where
  len : g.length * 40 ≤ 140737488355328
  ok : ∀ i, i < g.length → MakB (g.getD i rul0)

theorem len_pair (E : List Entr) (i j : Int) : (mkT E (pairR i j)).len = (tm E i).len + (tm E j).len := by
  show (Tm.pr (tm E i) (tm E j)).len = _
  unfold Tm.len; rw [Tm.txt, List.length_append]
theorem len_pow (E : List Entr) (i k : Int) : (mkT E (powR i k)).len = (tm E i).len * k.toNat := by
  show (Tm.pw (tm E i) k.toNat).len = _
  unfold Tm.len; rw [Tm.txt, len_rep, Nat.mul_comm]

theorem calls_rOne {a1 a2 a3 : Option Addr} {c1 c2 c3 : Nat} {E : List Entr} {res : List Int} (hB : Bld E res) (hE : E.length ≤ 1000) (hres : res.length ≤ 1000) {m : Rul} (hm : MakB m) (w : World) (h1 : In w [] a1 (ruE E)) (h2 : In w [] a2 (leE E)) (h3 : In w [] a3 (ints .i64 res)) :
    Calls Try.prog fn_evergreenref12_One #[stV E.length a1 c1 a2 c2, ruV m, .slice a3 res.length c3] w fun e w' => ∃ v L1, e = .returned v ∧ R w [] L1 w' ∧ oneQ E (oneF E m res).1 (oneF E m res).2 a1 c1 a2 c2 v L1 := by
  refine new_call [.v (stV E.length a1 c1 a2 c2), .v (ruV m), .v (.slice a3 res.length c3)] ok_evergreenref12_One (by simp) ?_
  have p1 := calls_Pick m.a res.length hB.ne (by omega) hm.a
  have p2 := calls_Pick m.b res.length hB.ne (by omega) hm.b
  have p3 := calls_Pick m.k 4 (by decide) (by decide) hm.k
  have i1 := pickF_lt (n := m.a) hB.ne
  have i2 := pickF_lt (n := m.b) hB.ne
  have pa := hB.pick m.a
  have pb := hB.pick m.b
  have rd1 := fun {L : List Ent} => rdI (L := L) h3 i1
  have rd2 := fun {L : List Ent} => rdI (L := L) h3 i2
  have n3 : a3 ≠ none := neI h3 hB.ne
  have hl1 := hB.wf.le (n := res.getD (pickF m.a res.length) 0) pa.2
  have hl2 := hB.wf.le (n := res.getD (pickF m.b res.length) 0) pb.2
  have q1 := hB.wf.pos1 (n := res.getD (pickF m.a res.length) 0)
  dsimp only at hl1 hl2 q1
  unfold oneF
  generalize pickF m.a res.length = ia at *
  generalize pickF m.b res.length = ib at *
  generalize res.getD ia 0 = x at *
  generalize res.getD ib 0 = y at *
  generalize pickF m.k 4 = kk at *
  have L1 := calls_Length (a1 := a1) (c1 := c1) (a2 := a2) (c2 := c2) E (by omega) pa.1 pa.2
  have L2 := calls_Length (a1 := a1) (c1 := c1) (a2 := a2) (c2 := c2) E (by omega) pb.1 pb.2
  by_cases k0 : kk = 0
  · subst k0
    rw [if_pos rfl]
    obtain ⟨l, hl⟩ : ∃ l : Nat, m.l = l := ⟨m.l.toNat, by have := hm.l; omega⟩
    rw [hl, Int.toNat_natCast]
    have cA := calls_rAdd (a1 := a1) (c1 := c1) (a2 := a2) (c2 := c2) E (by omega) (letR l) 1 rfl
    (repeat' ((conv => whnf); first | rw [hl] | rw [Int.toNat_natCast] | rw [Nat.mul_one] | (first | refine CallK_pure (.v _) (fun w hR => p1 w) ?_ | refine QCall_pure (.v _) (fun w hR => p1 w) ?_) | (first | refine CallK_pure (.v _) (fun w hR => p2 w) ?_ | refine QCall_pure (.v _) (fun w hR => p2 w) ?_) | (first | refine CallK_pure (.v _) (fun w hR => p3 w) ?_ | refine QCall_pure (.v _) (fun w hR => p3 w) ?_) | refine ⟨_, rd1, ?_⟩ | refine ⟨_, rd2, ?_⟩ | refine ⟨.v _, ⟨rfl, trivial⟩, ?_⟩ | ((refine CallK_new (fun w hR => cA w (h1.cast hR (by simp)) (h2.cast hR (by simp))) ?_; rintro _ _ (⟨hq, rfl, rfl⟩ | ⟨a1', c1', a2', c2', rfl, rfl⟩)) <;> refine ⟨.v _, rfl, ?_⟩) | (refine bcase_prop (fun h => ?_) (fun h => ?_) <;> try (exfalso; omega)) | (refine bcase_nprop (fun h => ?_) (fun h => ?_) <;> try (exfalso; omega)) | (refine bcase_intro (fun h => ?_) (fun h => ?_) <;> (try simp only [Bool.not_eq_true', Bool.not_eq_false', decide_eq_true_eq, decide_eq_false_iff_not, Bool.not_eq_true, Bool.not_eq_false, Decidable.not_not] at h)) | refine And.intro (by first | omega | exact rfl | assumption | exact ⟨rfl, rfl, rfl, rfl, rfl⟩ | exact ⟨rfl, rfl, rfl, rfl⟩ | exact ⟨rfl, by omega⟩ | exact oneAll_of rfl | exact ⟨rfl, oneAll_of rfl⟩ | exact Ref.refl _ | exact Thin.ref (.skip (Thin.refl _)) | exact Thin.ref (.skip (.skip (Thin.refl _))) | exact n3 | exact ⟨rfl, Nat.le_of_ble_eq_true rfl⟩ | ((try unfold maxLen); (try simp only [List.length_nil, List.length_cons, List.length_append]); omega) | (refine ⟨rfl, ?_⟩; (try simp only [List.length_nil, List.length_cons, List.length_append]); omega)) ?_ | intro _)); (all_goals (conv => whnf))
    all_goals first | exact ⟨endOld hq rfl⟩ | exact ⟨endNew 801 802 rfl rfl rfl rfl rfl rfl rfl rfl⟩
  · rw [if_neg k0]
    by_cases k3 : kk = 3
    · subst k3
      rw [if_pos rfl]
      by_cases hx : x = 0
      · rw [if_pos (.inl hx)]
        subst hx
        (repeat' ((conv => whnf); first | rw [Int.toNat_natCast] | rw [Nat.mul_one] | (first | refine CallK_pure (.v _) (fun w hR => p1 w) ?_ | refine QCall_pure (.v _) (fun w hR => p1 w) ?_) | (first | refine CallK_pure (.v _) (fun w hR => p2 w) ?_ | refine QCall_pure (.v _) (fun w hR => p2 w) ?_) | (first | refine CallK_pure (.v _) (fun w hR => p3 w) ?_ | refine QCall_pure (.v _) (fun w hR => p3 w) ?_) | refine ⟨_, rd1, ?_⟩ | refine ⟨_, rd2, ?_⟩ | refine ⟨.v _, ⟨rfl, trivial⟩, ?_⟩ | refine CallK_pure (.v _) (fun w hR => L1 w (h2.cast hR (by simp))) ?_ | (refine bcase_prop (fun h => ?_) (fun h => ?_) <;> try (exfalso; omega)) | (refine bcase_nprop (fun h => ?_) (fun h => ?_) <;> try (exfalso; omega)) | (refine bcase_intro (fun h => ?_) (fun h => ?_) <;> (try simp only [Bool.not_eq_true', Bool.not_eq_false', decide_eq_true_eq, decide_eq_false_iff_not, Bool.not_eq_true, Bool.not_eq_false, Decidable.not_not] at h)) | refine And.intro (by first | omega | exact rfl | assumption | exact ⟨rfl, rfl, rfl, rfl, rfl⟩ | exact ⟨rfl, rfl, rfl, rfl⟩ | exact ⟨rfl, by omega⟩ | exact oneAll_of rfl | exact ⟨rfl, oneAll_of rfl⟩ | exact Ref.refl _ | exact Thin.ref (.skip (Thin.refl _)) | exact Thin.ref (.skip (.skip (Thin.refl _))) | exact n3 | exact ⟨rfl, Nat.le_of_ble_eq_true rfl⟩ | ((try unfold maxLen); (try simp only [List.length_nil, List.length_cons, List.length_append]); omega) | (refine ⟨rfl, ?_⟩; (try simp only [List.length_nil, List.length_cons, List.length_append]); omega)) ?_ | intro _)); (all_goals (conv => whnf))
        all_goals exact ⟨endOld rfl rfl⟩
      · have hp := q1 (by omega) pa.2
        by_cases ht : m.t ≤ 0
        · rw [if_pos (.inr (.inl ht))]
          (repeat' ((conv => whnf); first | rw [Int.toNat_natCast] | rw [Nat.mul_one] | (first | refine CallK_pure (.v _) (fun w hR => p1 w) ?_ | refine QCall_pure (.v _) (fun w hR => p1 w) ?_) | (first | refine CallK_pure (.v _) (fun w hR => p2 w) ?_ | refine QCall_pure (.v _) (fun w hR => p2 w) ?_) | (first | refine CallK_pure (.v _) (fun w hR => p3 w) ?_ | refine QCall_pure (.v _) (fun w hR => p3 w) ?_) | refine ⟨_, rd1, ?_⟩ | refine ⟨_, rd2, ?_⟩ | refine ⟨.v _, ⟨rfl, trivial⟩, ?_⟩ | refine CallK_pure (.v _) (fun w hR => L1 w (h2.cast hR (by simp))) ?_ | (refine bcase_prop (fun h => ?_) (fun h => ?_) <;> try (exfalso; omega)) | (refine bcase_nprop (fun h => ?_) (fun h => ?_) <;> try (exfalso; omega)) | (refine bcase_intro (fun h => ?_) (fun h => ?_) <;> (try simp only [Bool.not_eq_true', Bool.not_eq_false', decide_eq_true_eq, decide_eq_false_iff_not, Bool.not_eq_true, Bool.not_eq_false, Decidable.not_not] at h)) | refine And.intro (by first | omega | exact rfl | assumption | exact ⟨rfl, rfl, rfl, rfl, rfl⟩ | exact ⟨rfl, rfl, rfl, rfl⟩ | exact ⟨rfl, by omega⟩ | exact oneAll_of rfl | exact ⟨rfl, oneAll_of rfl⟩ | exact Ref.refl _ | exact Thin.ref (.skip (Thin.refl _)) | exact Thin.ref (.skip (.skip (Thin.refl _))) | exact n3 | exact ⟨rfl, Nat.le_of_ble_eq_true rfl⟩ | ((try unfold maxLen); (try simp only [List.length_nil, List.length_cons, List.length_append]); omega) | (refine ⟨rfl, ?_⟩; (try simp only [List.length_nil, List.length_cons, List.length_append]); omega)) ?_ | intro _)); (all_goals (conv => whnf))
          all_goals first | exact ⟨endOld rfl rfl⟩ | (exfalso; omega)
        · obtain ⟨t, htn⟩ : ∃ t : Nat, m.t = t := ⟨m.t.toNat, by omega⟩
          rw [htn, Int.toNat_natCast]
          have hdiv : (1152921504606846976 : Int) / ((tm E x).len : Int) = ((1152921504606846976 / (tm E x).len : Nat) : Int) := by rw [Int.natCast_ediv]; rfl
          have hiff : t ≤ 1152921504606846976 / (tm E x).len ↔ (tm E x).len * t ≤ LM := by
            rw [Nat.le_div_iff_mul_le (by omega), Nat.mul_comm]
          have cA := calls_rAdd (a1 := a1) (c1 := c1) (a2 := a2) (c2 := c2) E (by omega) (powR x t) ((tm E x).len * t) (by rw [len_pow]; rfl)
          have hmul : ((tm E x).len : Int) * (t : Int) = (((tm E x).len * t : Nat) : Int) := by simp
          have htb := hm.t
          generalize (tm E x).len = ln at *
          generalize ln * t = p at *
          unfold LM at *
          generalize 1152921504606846976 / ln = dd at *
          by_cases hlong : 1152921504606846976 < p
          · rw [if_pos (.inr (.inr hlong))]
            (repeat' ((conv => whnf); first | rw [hdiv] | rw [htn] | rw [Int.toNat_natCast] | rw [Nat.mul_one] | (first | refine CallK_pure (.v _) (fun w hR => p1 w) ?_ | refine QCall_pure (.v _) (fun w hR => p1 w) ?_) | (first | refine CallK_pure (.v _) (fun w hR => p2 w) ?_ | refine QCall_pure (.v _) (fun w hR => p2 w) ?_) | (first | refine CallK_pure (.v _) (fun w hR => p3 w) ?_ | refine QCall_pure (.v _) (fun w hR => p3 w) ?_) | refine ⟨_, rd1, ?_⟩ | refine ⟨_, rd2, ?_⟩ | refine ⟨.v _, ⟨rfl, trivial⟩, ?_⟩ | refine CallK_pure (.v _) (fun w hR => L1 w (h2.cast hR (by simp))) ?_ | (refine bcase_prop (fun h => ?_) (fun h => ?_) <;> try (exfalso; omega)) | (refine bcase_nprop (fun h => ?_) (fun h => ?_) <;> try (exfalso; omega)) | (refine bcase_intro (fun h => ?_) (fun h => ?_) <;> (try simp only [Bool.not_eq_true', Bool.not_eq_false', decide_eq_true_eq, decide_eq_false_iff_not, Bool.not_eq_true, Bool.not_eq_false, Decidable.not_not] at h)) | refine And.intro (by first | omega | exact rfl | assumption | exact ⟨rfl, rfl, rfl, rfl, rfl⟩ | exact ⟨rfl, rfl, rfl, rfl⟩ | exact ⟨rfl, by omega⟩ | exact oneAll_of rfl | exact ⟨rfl, oneAll_of rfl⟩ | exact Ref.refl _ | exact Thin.ref (.skip (Thin.refl _)) | exact Thin.ref (.skip (.skip (Thin.refl _))) | exact n3 | exact ⟨by omega, by omega, by omega⟩ | exact ⟨rfl, Nat.le_of_ble_eq_true rfl⟩ | ((try unfold maxLen); (try simp only [List.length_nil, List.length_cons, List.length_append]); omega) | (refine ⟨rfl, ?_⟩; (try simp only [List.length_nil, List.length_cons, List.length_append]); omega)) ?_ | intro _)); (all_goals (conv => whnf))
            all_goals first | exact ⟨endOld rfl rfl⟩ | (exfalso; omega)
          · rw [if_neg (by omega)]
            by_cases ht1 : (t : Int) = 1
            · rw [if_pos ht1]
              (repeat' ((conv => whnf); first | rw [hdiv] | rw [htn] | rw [Int.toNat_natCast] | rw [Nat.mul_one] | (first | refine CallK_pure (.v _) (fun w hR => p1 w) ?_ | refine QCall_pure (.v _) (fun w hR => p1 w) ?_) | (first | refine CallK_pure (.v _) (fun w hR => p2 w) ?_ | refine QCall_pure (.v _) (fun w hR => p2 w) ?_) | (first | refine CallK_pure (.v _) (fun w hR => p3 w) ?_ | refine QCall_pure (.v _) (fun w hR => p3 w) ?_) | refine ⟨_, rd1, ?_⟩ | refine ⟨_, rd2, ?_⟩ | refine ⟨.v _, ⟨rfl, trivial⟩, ?_⟩ | refine CallK_pure (.v _) (fun w hR => L1 w (h2.cast hR (by simp))) ?_ | (refine bcase_prop (fun h => ?_) (fun h => ?_) <;> try (exfalso; omega)) | (refine bcase_nprop (fun h => ?_) (fun h => ?_) <;> try (exfalso; omega)) | (refine bcase_intro (fun h => ?_) (fun h => ?_) <;> (try simp only [Bool.not_eq_true', Bool.not_eq_false', decide_eq_true_eq, decide_eq_false_iff_not, Bool.not_eq_true, Bool.not_eq_false, Decidable.not_not] at h)) | refine And.intro (by first | omega | exact rfl | assumption | exact ⟨rfl, rfl, rfl, rfl, rfl⟩ | exact ⟨rfl, rfl, rfl, rfl⟩ | exact ⟨rfl, by omega⟩ | exact oneAll_of rfl | exact ⟨rfl, oneAll_of rfl⟩ | exact Ref.refl _ | exact Thin.ref (.skip (Thin.refl _)) | exact Thin.ref (.skip (.skip (Thin.refl _))) | exact n3 | exact ⟨by omega, by omega, by omega⟩ | exact ⟨rfl, Nat.le_of_ble_eq_true rfl⟩ | ((try unfold maxLen); (try simp only [List.length_nil, List.length_cons, List.length_append]); omega) | (refine ⟨rfl, ?_⟩; (try simp only [List.length_nil, List.length_cons, List.length_append]); omega)) ?_ | intro _)); (all_goals (conv => whnf))
              all_goals first | exact ⟨endOld rfl rfl⟩ | (exfalso; omega)
            · rw [if_neg ht1]
              (repeat' ((conv => whnf); first | rw [hdiv] | rw [hmul] | rw [htn] | rw [Int.toNat_natCast] | rw [Nat.mul_one] | (first | refine CallK_pure (.v _) (fun w hR => p1 w) ?_ | refine QCall_pure (.v _) (fun w hR => p1 w) ?_) | (first | refine CallK_pure (.v _) (fun w hR => p2 w) ?_ | refine QCall_pure (.v _) (fun w hR => p2 w) ?_) | (first | refine CallK_pure (.v _) (fun w hR => p3 w) ?_ | refine QCall_pure (.v _) (fun w hR => p3 w) ?_) | refine ⟨_, rd1, ?_⟩ | refine ⟨_, rd2, ?_⟩ | refine ⟨.v _, ⟨rfl, trivial⟩, ?_⟩ | refine CallK_pure (.v _) (fun w hR => L1 w (h2.cast hR (by simp))) ?_ | ((refine CallK_new (fun w hR => cA w (h1.cast hR (by simp)) (h2.cast hR (by simp))) ?_; rintro _ _ (⟨hq, rfl, rfl⟩ | ⟨a1', c1', a2', c2', rfl, rfl⟩)) <;> refine ⟨.v _, rfl, ?_⟩) | (refine bcase_prop (fun h => ?_) (fun h => ?_) <;> try (exfalso; omega)) | (refine bcase_nprop (fun h => ?_) (fun h => ?_) <;> try (exfalso; omega)) | (refine bcase_intro (fun h => ?_) (fun h => ?_) <;> (try simp only [Bool.not_eq_true', Bool.not_eq_false', decide_eq_true_eq, decide_eq_false_iff_not, Bool.not_eq_true, Bool.not_eq_false, Decidable.not_not] at h)) | refine And.intro (by first | omega | exact rfl | assumption | exact ⟨rfl, rfl, rfl, rfl, rfl⟩ | exact ⟨rfl, rfl, rfl, rfl⟩ | exact ⟨rfl, by omega⟩ | exact oneAll_of rfl | exact ⟨rfl, oneAll_of rfl⟩ | exact Ref.refl _ | exact Thin.ref (.skip (Thin.refl _)) | exact Thin.ref (.skip (.skip (Thin.refl _))) | exact n3 | exact ⟨by omega, by omega, by omega⟩ | exact ⟨rfl, Nat.le_of_ble_eq_true rfl⟩ | ((try unfold maxLen); (try simp only [List.length_nil, List.length_cons, List.length_append]); omega) | (refine ⟨rfl, ?_⟩; (try simp only [List.length_nil, List.length_cons, List.length_append]); omega)) ?_ | intro _)); (all_goals (conv => whnf))
              all_goals first | (exfalso; omega) | exact ⟨endOld hq rfl⟩ | exact ⟨endNew 801 802 rfl rfl rfl rfl rfl rfl rfl rfl⟩
    · rw [if_neg k3]
      by_cases hx : x = 0
      · rw [if_pos hx]
        (repeat' ((conv => whnf); first | rw [Int.toNat_natCast] | rw [Nat.mul_one] | (first | refine CallK_pure (.v _) (fun w hR => p1 w) ?_ | refine QCall_pure (.v _) (fun w hR => p1 w) ?_) | (first | refine CallK_pure (.v _) (fun w hR => p2 w) ?_ | refine QCall_pure (.v _) (fun w hR => p2 w) ?_) | (first | refine CallK_pure (.v _) (fun w hR => p3 w) ?_ | refine QCall_pure (.v _) (fun w hR => p3 w) ?_) | refine ⟨_, rd1, ?_⟩ | refine ⟨_, rd2, ?_⟩ | refine ⟨.v _, ⟨rfl, trivial⟩, ?_⟩ | (refine bcase_prop (fun h => ?_) (fun h => ?_) <;> try (exfalso; omega)) | (refine bcase_nprop (fun h => ?_) (fun h => ?_) <;> try (exfalso; omega)) | (refine bcase_intro (fun h => ?_) (fun h => ?_) <;> (try simp only [Bool.not_eq_true', Bool.not_eq_false', decide_eq_true_eq, decide_eq_false_iff_not, Bool.not_eq_true, Bool.not_eq_false, Decidable.not_not] at h)) | refine And.intro (by first | omega | exact rfl | assumption | exact ⟨rfl, rfl, rfl, rfl, rfl⟩ | exact ⟨rfl, rfl, rfl, rfl⟩ | exact ⟨rfl, by omega⟩ | exact oneAll_of rfl | exact ⟨rfl, oneAll_of rfl⟩ | exact Ref.refl _ | exact Thin.ref (.skip (Thin.refl _)) | exact Thin.ref (.skip (.skip (Thin.refl _))) | exact n3 | exact ⟨rfl, Nat.le_of_ble_eq_true rfl⟩ | ((try unfold maxLen); (try simp only [List.length_nil, List.length_cons, List.length_append]); omega) | (refine ⟨rfl, ?_⟩; (try simp only [List.length_nil, List.length_cons, List.length_append]); omega)) ?_ | intro _)); (all_goals (conv => whnf))
        all_goals first | exact ⟨endOld rfl rfl⟩ | (exfalso; omega)
      · rw [if_neg hx]
        by_cases hy : y = 0
        · rw [if_pos hy]
          (repeat' ((conv => whnf); first | rw [Int.toNat_natCast] | rw [Nat.mul_one] | (first | refine CallK_pure (.v _) (fun w hR => p1 w) ?_ | refine QCall_pure (.v _) (fun w hR => p1 w) ?_) | (first | refine CallK_pure (.v _) (fun w hR => p2 w) ?_ | refine QCall_pure (.v _) (fun w hR => p2 w) ?_) | (first | refine CallK_pure (.v _) (fun w hR => p3 w) ?_ | refine QCall_pure (.v _) (fun w hR => p3 w) ?_) | refine ⟨_, rd1, ?_⟩ | refine ⟨_, rd2, ?_⟩ | refine ⟨.v _, ⟨rfl, trivial⟩, ?_⟩ | (refine bcase_prop (fun h => ?_) (fun h => ?_) <;> try (exfalso; omega)) | (refine bcase_nprop (fun h => ?_) (fun h => ?_) <;> try (exfalso; omega)) | (refine bcase_intro (fun h => ?_) (fun h => ?_) <;> (try simp only [Bool.not_eq_true', Bool.not_eq_false', decide_eq_true_eq, decide_eq_false_iff_not, Bool.not_eq_true, Bool.not_eq_false, Decidable.not_not] at h)) | refine And.intro (by first | omega | exact rfl | assumption | exact ⟨rfl, rfl, rfl, rfl, rfl⟩ | exact ⟨rfl, rfl, rfl, rfl⟩ | exact ⟨rfl, by omega⟩ | exact oneAll_of rfl | exact ⟨rfl, oneAll_of rfl⟩ | exact Ref.refl _ | exact Thin.ref (.skip (Thin.refl _)) | exact Thin.ref (.skip (.skip (Thin.refl _))) | exact n3 | exact ⟨rfl, Nat.le_of_ble_eq_true rfl⟩ | ((try unfold maxLen); (try simp only [List.length_nil, List.length_cons, List.length_append]); omega) | (refine ⟨rfl, ?_⟩; (try simp only [List.length_nil, List.length_cons, List.length_append]); omega)) ?_ | intro _)); (all_goals (conv => whnf))
          all_goals first | exact ⟨endOld rfl rfl⟩ | (exfalso; omega)
        · rw [if_neg hy]
          have cA := calls_rAdd (a1 := a1) (c1 := c1) (a2 := a2) (c2 := c2) E (by omega) (pairR x y) ((tm E x).len + (tm E y).len) (len_pair E x y)
          generalize (tm E x).len = lx at *
          generalize (tm E y).len = ly at *
          unfold LM at *
          by_cases hlong : 1152921504606846976 < lx + ly
          · rw [if_pos hlong]
            (repeat' ((conv => whnf); first | rw [Int.toNat_natCast] | rw [Nat.mul_one] | (first | refine CallK_pure (.v _) (fun w hR => p1 w) ?_ | refine QCall_pure (.v _) (fun w hR => p1 w) ?_) | (first | refine CallK_pure (.v _) (fun w hR => p2 w) ?_ | refine QCall_pure (.v _) (fun w hR => p2 w) ?_) | (first | refine CallK_pure (.v _) (fun w hR => p3 w) ?_ | refine QCall_pure (.v _) (fun w hR => p3 w) ?_) | refine ⟨_, rd1, ?_⟩ | refine ⟨_, rd2, ?_⟩ | refine ⟨.v _, ⟨rfl, trivial⟩, ?_⟩ | (refine QCall_pure (.v _) (fun w hR => L1 w (h2.cast hR (by simp))) ?_) | (refine QCall_pure (.v _) (fun w hR => L2 w (h2.cast hR (by simp))) ?_) | (refine bcase_prop (fun h => ?_) (fun h => ?_) <;> try (exfalso; omega)) | (refine bcase_nprop (fun h => ?_) (fun h => ?_) <;> try (exfalso; omega)) | (refine bcase_intro (fun h => ?_) (fun h => ?_) <;> (try simp only [Bool.not_eq_true', Bool.not_eq_false', decide_eq_true_eq, decide_eq_false_iff_not, Bool.not_eq_true, Bool.not_eq_false, Decidable.not_not] at h)) | refine And.intro (by first | omega | exact rfl | assumption | exact ⟨rfl, rfl, rfl, rfl, rfl⟩ | exact ⟨rfl, rfl, rfl, rfl⟩ | exact ⟨rfl, by omega⟩ | exact oneAll_of rfl | exact ⟨rfl, oneAll_of rfl⟩ | exact Ref.refl _ | exact Thin.ref (.skip (Thin.refl _)) | exact Thin.ref (.skip (.skip (Thin.refl _))) | exact n3 | exact ⟨rfl, Nat.le_of_ble_eq_true rfl⟩ | ((try unfold maxLen); (try simp only [List.length_nil, List.length_cons, List.length_append]); omega) | (refine ⟨rfl, ?_⟩; (try simp only [List.length_nil, List.length_cons, List.length_append]); omega)) ?_ | intro _)); (all_goals (conv => whnf))
            all_goals first | exact ⟨endOld rfl rfl⟩ | (exfalso; omega)
          · rw [if_neg hlong]
            have hadd : (lx : Int) + (ly : Int) = ((lx + ly : Nat) : Int) := by omega
            (repeat' ((conv => whnf); first | rw [hadd] | rw [Int.toNat_natCast] | rw [Nat.mul_one] | (first | refine CallK_pure (.v _) (fun w hR => p1 w) ?_ | refine QCall_pure (.v _) (fun w hR => p1 w) ?_) | (first | refine CallK_pure (.v _) (fun w hR => p2 w) ?_ | refine QCall_pure (.v _) (fun w hR => p2 w) ?_) | (first | refine CallK_pure (.v _) (fun w hR => p3 w) ?_ | refine QCall_pure (.v _) (fun w hR => p3 w) ?_) | refine ⟨_, rd1, ?_⟩ | refine ⟨_, rd2, ?_⟩ | refine ⟨.v _, ⟨rfl, trivial⟩, ?_⟩ | (refine QCall_pure (.v _) (fun w hR => L1 w (h2.cast hR (by simp))) ?_) | (refine QCall_pure (.v _) (fun w hR => L2 w (h2.cast hR (by simp))) ?_) | ((refine CallK_new (fun w hR => cA w (h1.cast hR (by simp)) (h2.cast hR (by simp))) ?_; rintro _ _ (⟨hq, rfl, rfl⟩ | ⟨a1', c1', a2', c2', rfl, rfl⟩)) <;> refine ⟨.v _, rfl, ?_⟩) | (refine bcase_prop (fun h => ?_) (fun h => ?_) <;> try (exfalso; omega)) | (refine bcase_nprop (fun h => ?_) (fun h => ?_) <;> try (exfalso; omega)) | (refine bcase_intro (fun h => ?_) (fun h => ?_) <;> (try simp only [Bool.not_eq_true', Bool.not_eq_false', decide_eq_true_eq, decide_eq_false_iff_not, Bool.not_eq_true, Bool.not_eq_false, Decidable.not_not] at h)) | refine And.intro (by first | omega | exact rfl | assumption | exact ⟨rfl, rfl, rfl, rfl, rfl⟩ | exact ⟨rfl, rfl, rfl, rfl⟩ | exact ⟨rfl, by omega⟩ | exact oneAll_of rfl | exact ⟨rfl, oneAll_of rfl⟩ | exact Ref.refl _ | exact Thin.ref (.skip (Thin.refl _)) | exact Thin.ref (.skip (.skip (Thin.refl _))) | exact n3 | exact ⟨rfl, Nat.le_of_ble_eq_true rfl⟩ | ((try unfold maxLen); (try simp only [List.length_nil, List.length_cons, List.length_append]); omega) | (refine ⟨rfl, ?_⟩; (try simp only [List.length_nil, List.length_cons, List.length_append]); omega)) ?_ | intro _)); (all_goals (conv => whnf))
            all_goals first | (exfalso; omega) | exact ⟨endOld hq rfl⟩ | exact ⟨endNew 801 802 rfl rfl rfl rfl rfl rfl rfl rfl⟩
end Go.Proofs.Ytohlphngnhcbfaa
/- Lists of makes: the whole list, by the reference and in a store. -/
namespace Go.Proofs.Ytohlphngnhcbfaa
open Go.EG
attribute [local irreducible] CallK QCall Go.Calls
set_option linter.unusedSimpArgs false
set_option linter.unusedVariables false
set_option maxRecDepth 20000
set_option maxHeartbeats 4000000

/-! ### Plain -/

theorem buildF_prefix : ∀ (ms : List Rul) (E : List Entr) (res : List Int), ∃ rest, (buildF E res ms).2 = res ++ rest
  | [], E, res => ⟨[], by simp [buildF]⟩
  | m :: ms, E, res => by
    obtain ⟨rest, h⟩ := buildF_prefix ms (oneF E m res).1 (res ++ [(oneF E m res).2])
    exact ⟨(oneF E m res).2 :: rest, by rw [buildF, h]; simp⟩
/-- What a list's first makes have made. -/
structure BSt (g : List Rul) (i : Nat) (E : List Entr) (res : List Int) : Prop where
  bld : Bld E res
  len : res.length = i + 1
  room : E.length ≤ i
  all : buildF [] [0] g = buildF E res (g.drop i)
theorem BSt.start (g : List Rul) : BSt g 0 [] [0] := ⟨Bld.start, rfl, Nat.le_refl _, rfl⟩
theorem BSt.next {g : List Rul} {i : Nat} {E : List Entr} {res : List Int} (h : BSt g i E res) (hi : i < g.length) (hl : g.length ≤ 40) (hm : MakB (g.getD i rul0)) : BSt g (i + 1) (oneF E (g.getD i rul0) res).1 (res ++ [(oneF E (g.getD i rul0) res).2]) := by
  have hr := h.room
  obtain ⟨_, _, h3, h4, _⟩ := one_ok (m := g.getD i rul0) h.bld hm.l (by omega)
  refine ⟨h3, by simp [h.len], by omega, ?_⟩
  rw [h.all, drop_cons (d := rul0) hi, buildF]
theorem BSt.end_ {g : List Rul} {i : Nat} {E : List Entr} {res : List Int} (h : BSt g i E res) (hi : ¬ i < g.length) : buildF [] [0] g = (E, res) := by
  rw [h.all, List.drop_eq_nil_of_le (by omega), buildF]
theorem BSt.want {g : List Rul} {i : Nat} {E : List Entr} {res : List Int} (h : BSt g i E res) (hi : i < g.length) : (buildF [] [0] g).2.getD (i + 1) 0 = (oneF E (g.getD i rul0) res).2 := by
  rw [h.all, drop_cons (d := rul0) hi, buildF]
  obtain ⟨rest, hrest⟩ := buildF_prefix (g.drop (i + 1)) (oneF E (g.getD i rul0) res).1 (res ++ [(oneF E (g.getD i rul0) res).2])
  rw [hrest, List.getD_eq_getElem?_getD, List.getElem?_append_left (by simp [h.len]), List.getElem?_append_right (by rw [h.len]; exact Nat.le_refl _), h.len]
  simp
theorem bst_all {g : List Rul} (hg : MIn g) (hl : g.length ≤ 40) : BSt g g.length (buildF [] [0] g).1 (buildF [] [0] g).2 := by
  have key : ∀ k, k ≤ g.length → ∃ E res, BSt g k E res := by
    intro k
    induction k with
    | zero => exact fun _ => ⟨_, _, BSt.start g⟩
    | succ k ih =>
      intro hk
      obtain ⟨E, res, h⟩ := ih (by omega)
      exact ⟨_, _, h.next (by omega) hl (hg.ok k (by omega))⟩
  obtain ⟨E, res, h⟩ := key g.length (Nat.le_refl _)
  have := h.end_ (by omega)
  rw [this]
  exact h

/-! ### The reference's list -/

structure BldG where
  i : Nat
  E : List Entr
  res : List Int
  a1 : Option Addr
  c1 : Nat
  a2 : Option Addr
  c2 : Nat
  a3 : Option Addr
  c3 : Nat
def bldQ (g : List Rul) (v : Value) (L1 : List Ent) : Prop :=
  ∃ a1 c1 a2 c2 a3 c3, v = .tuple #[stV (buildF [] [0] g).1.length a1 c1 a2 c2, .slice a3 (g.length + 1) c3] ∧
    L1 = [.own 801 a1 (buildF [] [0] g).1.length c1 ty_api_Rule 5 (ruE (buildF [] [0] g).1), .own 802 a2 (buildF [] [0] g).1.length c2 ty_int 1 (leE (buildF [] [0] g).1), .own 803 a3 (g.length + 1) c3 ty_api_ID 1 (ints .i64 (buildF [] [0] g).2)]
theorem calls_rBuild (g : List Rul) (hg : MIn g) (hl : g.length ≤ 40) (a : Option Addr) (c : Nat) (w : World) (hin : In w [] a (rulsC g)) :
    Calls Try.prog fn_evergreenref12_Build #[.slice a g.length c] w fun e w' => ∃ v L1, e = .returned v ∧ R w [] L1 w' ∧ bldQ g v L1 := by
  refine new_call [.v (.slice a g.length c)] ok_evergreenref12_Build (by simp) ?_
  have hne : ∀ i, i < g.length → a ≠ none := fun i hi => hin.ne' (k := i * 5) (by rw [rulsC_length]; omega)
  have hrd := fun {L : List Ent} (i : Nat) (hi : i < g.length) => In.rdn (L := L) (vs := ruC (g.getD i rul0)) (k := i * 5) hin (Nat.succ_pos _) (rulsC_at hi)
  (repeat' ((conv => whnf); first | (refine bcase_prop (fun h => ?_) (fun h => ?_) <;> try (exfalso; omega)) | (refine bcase_nprop (fun h => ?_) (fun h => ?_) <;> try (exfalso; omega)) | (refine bcase_intro (fun h => ?_) (fun h => ?_) <;> (try simp only [Bool.not_eq_true', Bool.not_eq_false', decide_eq_true_eq, decide_eq_false_iff_not, Bool.not_eq_true, Bool.not_eq_false, Decidable.not_not] at h)) | refine And.intro (by first | omega | exact rfl | assumption | exact ⟨rfl, rfl, rfl, rfl, rfl⟩ | exact ⟨rfl, rfl, rfl, rfl⟩ | exact ⟨rfl, by omega⟩ | exact oneAll_of rfl | exact ⟨rfl, oneAll_of rfl⟩ | exact Ref.refl _ | exact Thin.ref (.skip (Thin.refl _)) | exact Thin.ref (.skip (.skip (Thin.refl _))) | exact ⟨rfl, Nat.le_of_ble_eq_true rfl⟩ | ((try unfold maxLen); (try simp only [List.length_nil, List.length_cons, List.length_append]); omega) | (refine ⟨rfl, ?_⟩; (try simp only [List.length_nil, List.length_cons, List.length_append]); omega)) ?_ | intro _)); (all_goals (conv => whnf))
  rename_i b2 b4 b10
  refine VC_loop BldG (fun x => [(0, .v (.slice a g.length c)), (2, .ptr 2 b2 0), (4, .ptr 4 b4 0), (5, .sl 803 x.a3 x.res.length x.c3), (6, .v (.int .i64 x.i))])
    (fun x => [.own 801 x.a1 x.E.length x.c1 ty_api_Rule 5 (ruE x.E), .own 802 x.a2 x.E.length x.c2 ty_int 1 (leE x.E), .own 803 x.a3 x.res.length x.c3 ty_api_ID 1 (ints .i64 x.res), .box 4 b4 [.slice x.a1 x.E.length x.c1, .slice x.a2 x.E.length x.c2] ty_evergreenref12_Store, .box 2 b2 [.slice none 0 0, .slice none 0 0] ty_evergreenref12_Store])
    (fun x => x.i ≤ g.length ∧ BSt g x.i x.E x.res) (fun x => g.length - x.i) ⟨0, [], [0], none, 0, none, 0, some ⟨b10, 0, none⟩, 1⟩ ⟨Nat.zero_le _, BSt.start g⟩ (by (repeat ((conv => whnf); refine And.intro (by first | exact rfl | exact vint_eq (by omega) | exact vint_eq (by (dsimp only; omega)) | exact vsl_eq (by omega) | exact vsl_eq (by first | (dsimp only; omega) | (simp; done) | (simp; omega))) ?_)); exact trivial) ((Ref.ownNil 802 ty_int 1).trans ((Ref.ownNil 801 ty_api_Rule 5).trans (Thin.ref (by (repeat (first | exact Thin.nil _ | exact Thin.refl _ | refine Thin.keep rfl (fun _ h => h) ?_ | refine Thin.skip ?_)))))) ?_
  rintro ⟨i, E, res, a1, c1, a2, c2, a3, c3⟩ ⟨hi, hB⟩
  dsimp only at hi hB ⊢
  by_cases hlt : i < g.length
  · have hn0 := hne i hlt
    have hr := fun {L : List Ent} => hrd (L := L) i hlt
    have hmk := hg.ok i hlt
    have hnx := hB.next hlt hl hmk
    have hroom := hB.room
    have hrl := hB.len
    have cO := fun w h1 h2 h3 => calls_rOne (a1 := a1) (c1 := c1) (a2 := a2) (c2 := c2) (a3 := a3) (c3 := c3) hB.bld (by omega) (by omega) hmk w h1 h2 h3
    have hsn := ints_snoc .i64 res (oneF E (g.getD i rul0) res).2
    generalize g.getD i rul0 = m at *
    generalize oneF E m res = EE at *
    obtain ⟨E', id⟩ := EE
    dsimp only at *
    (repeat' ((conv => whnf); first | rw [hsn] | rw [Int.toNat_natCast] | refine stop_and ?_ ?_ | refine ⟨ruC m, rfl, hr, ?_⟩ | refine ⟨_, ⟨rfl, trivial⟩, ?_⟩ | ((refine CallK_new (fun w hR => cO w (In.ownR (key := 801) hR rfl) (In.ownR (key := 802) hR rfl) (In.ownR (key := 803) hR rfl)) ?_; rintro _ _ (⟨hq, rfl, rfl⟩ | ⟨a1', c1', a2', c2', rfl, rfl⟩)) <;> refine ⟨.v _, rfl, ?_⟩) | (refine bcase_prop (fun h => ?_) (fun h => ?_) <;> try (exfalso; omega)) | (refine bcase_nprop (fun h => ?_) (fun h => ?_) <;> try (exfalso; omega)) | (refine bcase_intro (fun h => ?_) (fun h => ?_) <;> (try simp only [Bool.not_eq_true', Bool.not_eq_false', decide_eq_true_eq, decide_eq_false_iff_not, Bool.not_eq_true, Bool.not_eq_false, Decidable.not_not] at h)) | refine And.intro (by first | omega | exact rfl | assumption | exact ⟨rfl, rfl, rfl, rfl, rfl⟩ | exact ⟨rfl, rfl, rfl, rfl⟩ | exact ⟨rfl, by omega⟩ | exact oneAll_of rfl | exact ⟨rfl, oneAll_of rfl⟩ | exact Ref.refl _ | exact Thin.ref (.skip (Thin.refl _)) | exact Thin.ref (.skip (.skip (Thin.refl _))) | exact fun _ => Thin.ref (by (repeat (first | exact Thin.nil _ | exact Thin.refl _ | refine Thin.keep rfl (fun _ h => h) ?_ | refine Thin.skip ?_))) | exact Thin.ref (by (repeat (first | exact Thin.nil _ | exact Thin.refl _ | refine Thin.keep rfl (fun _ h => h) ?_ | refine Thin.skip ?_))) | exact ⟨rfl, Nat.le_of_ble_eq_true rfl⟩ | ((try unfold maxLen); (try simp only [List.length_nil, List.length_cons, List.length_append]); omega) | (refine ⟨rfl, ?_⟩; (try simp only [List.length_nil, List.length_cons, List.length_append]); omega)) ?_ | intro _)); (all_goals (conv => whnf))
    all_goals rename_i a' c'
    all_goals first
      | (subst hq; refine loop_next ⟨i + 1, E', res ++ [id], a1, c1, a2, c2, a', c'⟩ ⟨hlt, hnx⟩ (by ((try dsimp only); omega)) (by (repeat ((conv => whnf); refine And.intro (by first | exact rfl | exact vint_eq (by omega) | exact vint_eq (by (dsimp only; omega)) | exact vsl_eq (by omega) | exact vsl_eq (by first | (dsimp only; omega) | (simp; done) | (simp; omega))) ?_)); exact trivial) (Thin.ref ?_))
      | (refine loop_next ⟨i + 1, E', res ++ [id], a1', c1', a2', c2', a', c'⟩ ⟨hlt, hnx⟩ (by ((try dsimp only); omega)) (by (repeat ((conv => whnf); refine And.intro (by first | exact rfl | exact vint_eq (by omega) | exact vint_eq (by (dsimp only; omega)) | exact vsl_eq (by omega) | exact vsl_eq (by first | (dsimp only; omega) | (simp; done) | (simp; omega))) ?_)); exact trivial) (Thin.ref ?_))
    all_goals (repeat (first | exact Thin.nil _ | exact Thin.refl _ | refine Thin.keep rfl (fun _ h => h) ?_ | refine Thin.own (by simp; done) rfl ?_ | refine Thin.skip ?_))
  · have he := hB.end_ hlt
    have hrl := hB.len
    have hig : i = g.length := by omega
    subst hig
    unfold bldQ
    rw [he]
    (repeat' ((conv => whnf); first | refine ⟨_, ⟨rfl, trivial⟩, ?_⟩ | (refine bcase_prop (fun h => ?_) (fun h => ?_) <;> try (exfalso; omega)) | (refine bcase_nprop (fun h => ?_) (fun h => ?_) <;> try (exfalso; omega)) | (refine bcase_intro (fun h => ?_) (fun h => ?_) <;> (try simp only [Bool.not_eq_true', Bool.not_eq_false', decide_eq_true_eq, decide_eq_false_iff_not, Bool.not_eq_true, Bool.not_eq_false, Decidable.not_not] at h)) | refine And.intro (by first | omega | exact rfl | assumption | exact ⟨rfl, rfl, rfl, rfl, rfl⟩ | exact ⟨rfl, rfl, rfl, rfl⟩ | exact ⟨rfl, by omega⟩ | exact oneAll_of rfl | exact ⟨rfl, oneAll_of rfl⟩ | exact Ref.refl _ | exact Thin.ref (.skip (Thin.refl _)) | exact Thin.ref (.skip (.skip (Thin.refl _))) | exact ⟨rfl, Nat.le_of_ble_eq_true rfl⟩ | ((try unfold maxLen); (try simp only [List.length_nil, List.length_cons, List.length_append]); omega) | (refine ⟨rfl, ?_⟩; (try simp only [List.length_nil, List.length_cons, List.length_append]); omega)) ?_ | intro _)); (all_goals (conv => whnf))
    refine ⟨⟨_, ?_, a1, c1, a2, c2, a3, c3, ?_, rfl⟩⟩
    · refine Thin.ref (.keep rfl (fun _ h => h) (.keep rfl (fun _ h => h) (.own hrl rfl (.nil _))))
    · rw [hrl]; rfl

/-! ### The list in a store -/



structure LbG where
  i : Nat
  E : List Entr
  res : List Int
  a8 : Option Addr
  c8 : Nat
  fp : List Nat
def lbQ (b : Nat) (g : List Rul) (v : Value) (L1 : List Ent) : Prop :=
  ∃ a c fp', v = .tuple #[.slice a (g.length + 1) c, .bool true] ∧ L1 = [packE 77 fp' (fS b ⟨1000, (buildF [] [0] g).1⟩), .own 804 a (g.length + 1) c ty_api_ID 1 (ints .i64 (buildF [] [0] g).2)]
theorem mx0 (t : Int) : (if (0 : Int) > t then 0 else t) = max t 0 := by omega
theorem calls_lBuild (b : Nat) (g : List Rul) (hg : MIn g) (hl : g.length ≤ 40) (a : Option Addr) (c key : Nat) (fp : List Nat) (w : World) (hR : StR w key fp b ⟨1000, []⟩) (hin : In w fp a (rulsC g)) :
    Calls Try.prog fn_evergreenlaw12_Build #[pS b, .slice a g.length c] w fun e w' => ∃ v L1, e = .returned v ∧ R w fp L1 w' ∧ lbQ b g v L1 := by
  refine part_call [.v (pS b), .v (.slice a g.length c)] ok_evergreenlaw12_Build (by simp) (hR.key 77) ?_
  have hne : ∀ i, i < g.length → a ≠ none := fun i hi => hin.ne' (k := i * 5) (by rw [rulsC_length]; omega)
  have hrd := fun {L : List Ent} (i : Nat) (hi : i < g.length) => In.rdn (L := L) (vs := ruC (g.getD i rul0)) (k := i * 5) hin (Nat.succ_pos _) (rulsC_at hi)
  have cB := fun w h => calls_rBuild g hg hl a c w h
  (repeat' ((conv => whnf); first | ((refine CallK_new (fun w hR => cB w (hin.cast hR (by simp))) ?_); rintro _ _ ⟨a1, c1, a2, c2, a3, c3, rfl, rfl⟩; refine ⟨.v _, rfl, ?_⟩) | (refine bcase_prop (fun h => ?_) (fun h => ?_) <;> try (exfalso; omega)) | (refine bcase_nprop (fun h => ?_) (fun h => ?_) <;> try (exfalso; omega)) | (refine bcase_intro (fun h => ?_) (fun h => ?_) <;> (try simp only [Bool.not_eq_true', Bool.not_eq_false', decide_eq_true_eq, decide_eq_false_iff_not, Bool.not_eq_true, Bool.not_eq_false, Decidable.not_not] at h)) | refine And.intro (by first | omega | exact rfl | assumption | exact ⟨rfl, rfl, rfl, rfl, rfl⟩ | exact ⟨rfl, rfl, rfl, rfl⟩ | exact ⟨rfl, by omega⟩ | exact oneAll_of rfl | exact ⟨rfl, oneAll_of rfl⟩ | exact Ref.refl _ | exact Thin.ref (.skip (Thin.refl _)) | exact Thin.ref (.skip (.skip (Thin.refl _))) | exact ⟨rfl, Nat.le_of_ble_eq_true rfl⟩ | ((try unfold maxLen); (try simp only [List.length_nil, List.length_cons, List.length_append]); omega) | (refine ⟨rfl, ?_⟩; (try simp only [List.length_nil, List.length_cons, List.length_append]); omega)) ?_ | intro _)); (all_goals (conv => whnf))
  rename_i b6 b19
  have hwl : (buildF [] [0] g).2.length = g.length + 1 := (bst_all hg hl).len
  refine VC_loop LbG (fun x => [(0, .v (pS b)), (1, .v (.slice a g.length c)), (4, .v (.slice none 0 0)), (5, .v (.bool false)), (7, .sl 803 a3 (g.length + 1) c3), (8, .sl 804 x.a8 x.res.length x.c8), (20, .v (.slice a g.length c)), (21, .v (.int .i64 g.length)), (22, .v (.int .i64 x.i))])
    (fun x => [packE 77 x.fp (fS b ⟨1000, x.E⟩), .own 804 x.a8 x.res.length x.c8 ty_api_ID 1 (ints .i64 x.res), .own 803 a3 (g.length + 1) c3 ty_api_ID 1 (ints .i64 (buildF [] [0] g).2)])
    (fun x => x.i ≤ g.length ∧ BSt g x.i x.E x.res) (fun x => g.length - x.i) ⟨0, [], [0], some ⟨b19, 0, none⟩, 1, fp⟩ ⟨Nat.zero_le _, BSt.start g⟩ (by (repeat ((conv => whnf); refine And.intro (by first | exact rfl | exact vint_eq (by omega) | exact vint_eq (by (dsimp only; omega)) | exact vsl_eq (by omega) | exact vsl_eq (by first | (dsimp only; omega) | (simp; done) | (simp; omega))) ?_)); exact trivial) ((refPick 77 rfl).trans (Thin.ref ?_)) ?_
  · exact .keep rfl (fun _ h => h) (.keep rfl (fun _ h => h) (.skip (.skip (.skip (.keep rfl (fun _ h => h) (.nil _))))))
  rintro ⟨i, E, res, a8, c8, fpi⟩ ⟨hi, hB⟩
  dsimp only at hi hB ⊢
  by_cases hlt : i < g.length
  · have hn0 := hne i hlt
    have hr := fun {L : List Ent} => hrd (L := L) i hlt
    have hmk := hg.ok i hlt
    have hnx := hB.next hlt hl hmk
    have hroom := hB.room
    have hrl := hB.len
    have hwant := hB.want hlt
    obtain ⟨o1, o2, _, _, _⟩ := one_ok (m := g.getD i rul0) hB.bld hmk.l (by omega)
    generalize g.getD i rul0 = m at *
    have p1 := calls_Pick m.a res.length hB.bld.ne (by omega) hmk.a
    have p2 := calls_Pick m.b res.length hB.bld.ne (by omega) hmk.b
    have p3 := calls_Pick m.k 4 (by decide) (by decide) hmk.k
    have i1 := pickF_lt (n := m.a) hB.bld.ne
    have i2 := pickF_lt (n := m.b) hB.bld.ne
    have hat : ∀ j, j < res.length → (ints .i64 res)[j]? = some (.int .i64 (res.getD j 0)) := fun j hj => ints_getD hj
    have r1 := hat _ i1
    have r2 := hat _ i2
    have r3 : (ints .i64 (buildF [] [0] g).2)[i + 1]? = some (.int .i64 (oneF E m res).2) := by rw [← hwant]; exact ints_getD (by omega)
    have hsn := ints_snoc .i64 res (oneF E m res).2
    have e1 : ((i : Int) + 1).toNat = i + 1 := by omega
    have t0 := mx0 m.t
    have c2 := calls_Power b ⟨1000, E⟩ hB.bld.wf (res.getD (pickF m.a res.length) 0) (max m.t 0) (by have := hmk.t; omega)
    have c3 := calls_Pair b ⟨1000, E⟩ hB.bld.wf (res.getD (pickF m.a res.length) 0) (res.getD (pickF m.b res.length) 0)
    obtain ⟨l, hl'⟩ : ∃ l : Nat, m.l = l := ⟨m.l.toNat, by have := hmk.l; omega⟩
    have c1 := calls_Letter b ⟨1000, E⟩ l (by have := hmk.l; omega) (by dsimp only; omega)
    unfold stOne at o1 o2
    rw [hl', Int.toNat_natCast] at o1 o2
    generalize (buildF [] [0] g).2 = want at *
    generalize oneF E m res = EE at *
    obtain ⟨E', id⟩ := EE
    dsimp only at o1 o2 hnx hwant r3 hsn
    generalize pickF m.a res.length = ia at *
    generalize pickF m.b res.length = ib at *
    generalize pickF m.k 4 = kk at *
    generalize res.getD ia 0 = x at *
    generalize res.getD ib 0 = y at *
    by_cases k0 : kk = 0
    · subst k0
      rw [if_pos rfl] at o1 o2
      rw [o1] at c1
      generalize stPut ⟨1000, E⟩ (letR l) = st at *
      obtain ⟨st0, st1, st2⟩ := st
      dsimp only at o1 o2 c1
      subst o1 o2
      unfold resV at c1
      generalize errO st2 = er at *
      (repeat' ((conv => whnf); first | rw [hsn] | rw [hl'] | rw [e1] | rw [Int.toNat_natCast] | rw [Nat.mul_one] | (first | refine CallK_pure (.v _) (fun w hR => p1 w) ?_ | refine QCall_pure (.v _) (fun w hR => p1 w) ?_) | (first | refine CallK_pure (.v _) (fun w hR => p2 w) ?_ | refine QCall_pure (.v _) (fun w hR => p2 w) ?_) | (first | refine CallK_pure (.v _) (fun w hR => p3 w) ?_ | refine QCall_pure (.v _) (fun w hR => p3 w) ?_) | (refine CallK_pack (key := 77) rfl (fun w hR h0 => c1 _ _ _ h0) ?_; rintro _ _ ⟨rfl, fp', rfl⟩; refine ⟨.v _, rfl, ?_⟩) | refine ldCell r1 ?_ | refine ldCell r2 ?_ | refine ldCell r3 ?_ | refine ⟨ruC m, rfl, hr, ?_⟩ | refine ⟨_, ⟨rfl, trivial⟩, ?_⟩ | (refine bcase_prop (fun h => ?_) (fun h => ?_) <;> try (exfalso; omega)) | (refine bcase_nprop (fun h => ?_) (fun h => ?_) <;> try (exfalso; omega)) | (refine bcase_intro (fun h => ?_) (fun h => ?_) <;> (try simp only [Bool.not_eq_true', Bool.not_eq_false', decide_eq_true_eq, decide_eq_false_iff_not, Bool.not_eq_true, Bool.not_eq_false, Decidable.not_not] at h)) | refine And.intro (by first | omega | exact rfl | assumption | exact ⟨rfl, rfl, rfl, rfl, rfl⟩ | exact ⟨rfl, rfl, rfl, rfl⟩ | exact ⟨rfl, by omega⟩ | exact oneAll_of rfl | exact ⟨rfl, oneAll_of rfl⟩ | exact Ref.refl _ | exact Thin.ref (.skip (Thin.refl _)) | exact Thin.ref (.skip (.skip (Thin.refl _))) | exact ⟨rfl, Nat.le_of_ble_eq_true rfl⟩ | ((try unfold maxLen); (try simp only [List.length_nil, List.length_cons, List.length_append]); omega) | (refine ⟨rfl, ?_⟩; (try simp only [List.length_nil, List.length_cons, List.length_append]); omega)) ?_ | intro _)); (all_goals (conv => whnf))
      rename_i a' c'
      refine loop_next ⟨i + 1, E', res ++ [st1], a', c', fp'⟩ ⟨hlt, hnx⟩ (by ((try dsimp only); omega)) (by (repeat ((conv => whnf); refine And.intro (by first | exact rfl | exact vint_eq (by omega) | exact vint_eq (by (dsimp only; omega)) | exact vsl_eq (by omega) | exact vsl_eq (by first | (dsimp only; omega) | (simp; done) | (simp; omega))) ?_)); exact trivial) ((refPick 77 rfl).trans (Thin.ref ?_))
      (repeat (first | exact Thin.nil _ | exact Thin.refl _ | refine Thin.keep rfl (fun _ h => h) ?_ | refine Thin.own (by simp; done) rfl ?_ | refine Thin.skip ?_))
    · rw [if_neg k0] at o1 o2
      by_cases k3 : kk = 3
      · subst k3
        rw [if_pos rfl] at o1 o2
        rw [o1] at c2
        generalize stPower ⟨1000, E⟩ x (max m.t 0) = st at *
        obtain ⟨st0, st1, st2⟩ := st
        dsimp only at o1 o2 c2
        subst o1 o2
        unfold resV at c2
        generalize errO st2 = er at *
        (repeat' ((conv => whnf); first | rw [t0] | rw [hsn] | rw [hl'] | rw [e1] | rw [Int.toNat_natCast] | rw [Nat.mul_one] | (first | refine CallK_pure (.v _) (fun w hR => p1 w) ?_ | refine QCall_pure (.v _) (fun w hR => p1 w) ?_) | (first | refine CallK_pure (.v _) (fun w hR => p2 w) ?_ | refine QCall_pure (.v _) (fun w hR => p2 w) ?_) | (first | refine CallK_pure (.v _) (fun w hR => p3 w) ?_ | refine QCall_pure (.v _) (fun w hR => p3 w) ?_) | (refine CallK_pack (key := 77) rfl (fun w hR h0 => c2 _ _ _ h0) ?_; rintro _ _ ⟨rfl, fp', rfl⟩; refine ⟨.v _, rfl, ?_⟩) | refine ldCell r1 ?_ | refine ldCell r2 ?_ | refine ldCell r3 ?_ | refine ⟨ruC m, rfl, hr, ?_⟩ | refine ⟨_, ⟨rfl, trivial⟩, ?_⟩ | (refine bcase_prop (fun h => ?_) (fun h => ?_) <;> try (exfalso; omega)) | (refine bcase_nprop (fun h => ?_) (fun h => ?_) <;> try (exfalso; omega)) | (refine bcase_intro (fun h => ?_) (fun h => ?_) <;> (try simp only [Bool.not_eq_true', Bool.not_eq_false', decide_eq_true_eq, decide_eq_false_iff_not, Bool.not_eq_true, Bool.not_eq_false, Decidable.not_not] at h)) | refine And.intro (by first | omega | exact rfl | assumption | exact ⟨rfl, rfl, rfl, rfl, rfl⟩ | exact ⟨rfl, rfl, rfl, rfl⟩ | exact ⟨rfl, by omega⟩ | exact oneAll_of rfl | exact ⟨rfl, oneAll_of rfl⟩ | exact Ref.refl _ | exact Thin.ref (.skip (Thin.refl _)) | exact Thin.ref (.skip (.skip (Thin.refl _))) | exact ⟨rfl, Nat.le_of_ble_eq_true rfl⟩ | ((try unfold maxLen); (try simp only [List.length_nil, List.length_cons, List.length_append]); omega) | (refine ⟨rfl, ?_⟩; (try simp only [List.length_nil, List.length_cons, List.length_append]); omega)) ?_ | intro _)); (all_goals (conv => whnf))
        all_goals first | (exfalso; omega) | skip
        all_goals rename_i a' c'
        all_goals (refine loop_next ⟨i + 1, E', res ++ [st1], a', c', fp'⟩ ⟨hlt, hnx⟩ (by ((try dsimp only); omega)) (by (repeat ((conv => whnf); refine And.intro (by first | exact rfl | exact vint_eq (by omega) | exact vint_eq (by (dsimp only; omega)) | exact vsl_eq (by omega) | exact vsl_eq (by first | (dsimp only; omega) | (simp; done) | (simp; omega))) ?_)); exact trivial) ((refPick 77 rfl).trans (Thin.ref ?_)))
        all_goals (repeat (first | exact Thin.nil _ | exact Thin.refl _ | refine Thin.keep rfl (fun _ h => h) ?_ | refine Thin.own (by simp; done) rfl ?_ | refine Thin.skip ?_))
      · rw [if_neg k3] at o1 o2
        rw [o1] at c3
        generalize stPair ⟨1000, E⟩ x y = st at *
        obtain ⟨st0, st1, st2⟩ := st
        dsimp only at o1 o2 c3
        subst o1 o2
        unfold resV at c3
        generalize errO st2 = er at *
        (repeat' ((conv => whnf); first | rw [hsn] | rw [hl'] | rw [e1] | rw [Int.toNat_natCast] | rw [Nat.mul_one] | (first | refine CallK_pure (.v _) (fun w hR => p1 w) ?_ | refine QCall_pure (.v _) (fun w hR => p1 w) ?_) | (first | refine CallK_pure (.v _) (fun w hR => p2 w) ?_ | refine QCall_pure (.v _) (fun w hR => p2 w) ?_) | (first | refine CallK_pure (.v _) (fun w hR => p3 w) ?_ | refine QCall_pure (.v _) (fun w hR => p3 w) ?_) | (refine CallK_pack (key := 77) rfl (fun w hR h0 => c3 _ _ _ h0) ?_; rintro _ _ ⟨rfl, fp', rfl⟩; refine ⟨.v _, rfl, ?_⟩) | refine ldCell r1 ?_ | refine ldCell r2 ?_ | refine ldCell r3 ?_ | refine ⟨ruC m, rfl, hr, ?_⟩ | refine ⟨_, ⟨rfl, trivial⟩, ?_⟩ | (refine bcase_prop (fun h => ?_) (fun h => ?_) <;> try (exfalso; omega)) | (refine bcase_nprop (fun h => ?_) (fun h => ?_) <;> try (exfalso; omega)) | (refine bcase_intro (fun h => ?_) (fun h => ?_) <;> (try simp only [Bool.not_eq_true', Bool.not_eq_false', decide_eq_true_eq, decide_eq_false_iff_not, Bool.not_eq_true, Bool.not_eq_false, Decidable.not_not] at h)) | refine And.intro (by first | omega | exact rfl | assumption | exact ⟨rfl, rfl, rfl, rfl, rfl⟩ | exact ⟨rfl, rfl, rfl, rfl⟩ | exact ⟨rfl, by omega⟩ | exact oneAll_of rfl | exact ⟨rfl, oneAll_of rfl⟩ | exact Ref.refl _ | exact Thin.ref (.skip (Thin.refl _)) | exact Thin.ref (.skip (.skip (Thin.refl _))) | exact ⟨rfl, Nat.le_of_ble_eq_true rfl⟩ | ((try unfold maxLen); (try simp only [List.length_nil, List.length_cons, List.length_append]); omega) | (refine ⟨rfl, ?_⟩; (try simp only [List.length_nil, List.length_cons, List.length_append]); omega)) ?_ | intro _)); (all_goals (conv => whnf))
        all_goals first | (exfalso; omega) | skip
        all_goals rename_i a' c'
        all_goals (refine loop_next ⟨i + 1, E', res ++ [st1], a', c', fp'⟩ ⟨hlt, hnx⟩ (by ((try dsimp only); omega)) (by (repeat ((conv => whnf); refine And.intro (by first | exact rfl | exact vint_eq (by omega) | exact vint_eq (by (dsimp only; omega)) | exact vsl_eq (by omega) | exact vsl_eq (by first | (dsimp only; omega) | (simp; done) | (simp; omega))) ?_)); exact trivial) ((refPick 77 rfl).trans (Thin.ref ?_)))
        all_goals (repeat (first | exact Thin.nil _ | exact Thin.refl _ | refine Thin.keep rfl (fun _ h => h) ?_ | refine Thin.own (by simp; done) rfl ?_ | refine Thin.skip ?_))
  · have he := hB.end_ hlt
    have hrl := hB.len
    have hig : i = g.length := by omega
    subst hig
    unfold lbQ
    rw [he]
    (repeat' ((conv => whnf); first | refine ⟨_, ⟨rfl, trivial⟩, ?_⟩ | (refine bcase_prop (fun h => ?_) (fun h => ?_) <;> try (exfalso; omega)) | (refine bcase_nprop (fun h => ?_) (fun h => ?_) <;> try (exfalso; omega)) | (refine bcase_intro (fun h => ?_) (fun h => ?_) <;> (try simp only [Bool.not_eq_true', Bool.not_eq_false', decide_eq_true_eq, decide_eq_false_iff_not, Bool.not_eq_true, Bool.not_eq_false, Decidable.not_not] at h)) | refine And.intro (by first | omega | exact rfl | assumption | exact ⟨rfl, rfl, rfl, rfl, rfl⟩ | exact ⟨rfl, rfl, rfl, rfl⟩ | exact ⟨rfl, by omega⟩ | exact oneAll_of rfl | exact ⟨rfl, oneAll_of rfl⟩ | exact Ref.refl _ | exact Thin.ref (.skip (Thin.refl _)) | exact Thin.ref (.skip (.skip (Thin.refl _))) | exact ⟨rfl, Nat.le_of_ble_eq_true rfl⟩ | ((try unfold maxLen); (try simp only [List.length_nil, List.length_cons, List.length_append]); omega) | (refine ⟨rfl, ?_⟩; (try simp only [List.length_nil, List.length_cons, List.length_append]); omega)) ?_ | intro _)); (all_goals (conv => whnf))
    refine ⟨⟨_, (refPick 77 rfl).trans (Thin.ref ?_), a8, c8, fpi, ?_, rfl⟩⟩
    · exact .keep rfl (fun _ h => h) (.own hrl rfl (.nil _))
    · rw [hrl]
/-- A cell of a row of one's own, read behind an address. -/
theorem calls_lBuildN (b : Nat) (g : List Rul) (hg : MIn g) (hl : g.length ≤ 40) (a : Option Addr) (c key : Nat) (fp : List Nat) (w : World) (hR : StR w key fp b ⟨1000, []⟩) (hin : In w fp a (rulsC g)) :
    Calls Try.prog fn_evergreenlaw12_Build #[pS b, .slice a g.length c] w fun e w' => ∃ v L1, e = .returned v ∧ R w fp L1 w' ∧ ∃ a c fp', a ≠ none ∧ v = .tuple #[.slice a (g.length + 1) c, .bool true] ∧ L1 = [packE 77 fp' (fS b ⟨1000, (buildF [] [0] g).1⟩), .own 804 a (g.length + 1) c ty_api_ID 1 (ints .i64 (buildF [] [0] g).2)] :=
  (calls_lBuild b g hg hl a c key fp w hR hin).mono fun e w' ⟨v, L1, he, hR', a, c, fp', hv, hL⟩ => by
    subst hL
    exact ⟨v, _, he, hR', a, c, fp', own_ne hR'.tail (key := 804) rfl (Nat.succ_pos _), hv, rfl⟩
end Go.Proofs.Ytohlphngnhcbfaa
/- A store with the rules of a list, and one of the results. -/
namespace Go.Proofs.Ytohlphngnhcbfaa
open Go.EG
attribute [local irreducible] CallK QCall Go.Calls
set_option linter.unusedSimpArgs false
set_option linter.unusedVariables false
set_option maxRecDepth 20000
set_option maxHeartbeats 4000000

theorem inCast1 {w0 w : World} {fp0 fp1 : List Nat} {k1 : Nat} {ok1 : World → Prop} {Lr : List Ent} {a : Option Addr} {xs : List Value} (h : In w0 fp0 a xs) (hR : R w0 fp0 (.abs k1 fp1 ok1 :: Lr) w) : In w fp1 a xs :=
  h.cast hR (fun b hb => by rw [fps_cons]; exact List.mem_append_left _ hb)
def gS (g : List Rul) : Sto := ⟨1000, (buildF [] [0] g).1⟩
abbrev gE (g : List Rul) : List Entr := (gS g).E
def gId (g : List Rul) (pick : Int) : Int := (buildF [] [0] g).2.getD (pickF pick (g.length + 1)) 0
theorem gS_wf {g : List Rul} (hg : MIn g) (hl : g.length ≤ 40) : WF (gS g) := (bst_all hg hl).bld.wf
theorem gId_known {g : List Rul} (hg : MIn g) (hl : g.length ≤ 40) (pick : Int) : known (gS g) (gId g pick) := by
  have h := bst_all hg hl
  have := h.bld.known (pickF pick (g.length + 1)) (by rw [h.len]; exact pickF_lt (by omega))
  exact this
theorem gE_len {g : List Rul} (hg : MIn g) (hl : g.length ≤ 40) : (gE g).length ≤ 40 := Nat.le_trans (bst_all hg hl).room hl
def begQ (g : List Rul) (pick : Int) (v : Value) (L1 : List Ent) : Prop :=
  ∃ b a1 c1 a2 c2 fp, v = .tuple #[pS b, stV (gE g).length a1 c1 a2 c2, .int .i64 (gId g pick), .bool true] ∧ L1 = [packE 77 fp (fS b (gS g)), .own 801 a1 (gE g).length c1 ty_api_Rule 5 (ruE (gE g)), .own 802 a2 (gE g).length c2 ty_int 1 (leE (gE g))]

theorem calls_begun16 (g : List Rul) (hg : MIn g) (hl : g.length ≤ 40) (pick : Int) (hp : -9223372036854775808 ≤ pick ∧ pick ≤ 9223372036854775807) (a : Option Addr) (c : Nat) (w : World) (hin : In w [] a (rulsC g)) :
    Calls Try.prog fn_evergreenlaw16_begun #[.slice a g.length c, .int .i64 pick] w fun e w' => ∃ v L1, e = .returned v ∧ R w [] L1 w' ∧ begQ g pick v L1 := by
  refine new_call [.v (.slice a g.length c), .v (.int .i64 pick)] ok_evergreenlaw16_begun (by simp) ?_
  have c1 := fun w => calls_New 1000 77 w
  rw [show clipS 1000 = 1000 from rfl] at c1
  have c2 := fun b key fp w hR hin => calls_lBuildN b g hg hl a c key fp w hR hin
  have c3 := fun w h => calls_rBuild g hg hl a c w h
  have p1 := calls_Pick pick (g.length + 1) (by omega) (by omega) hp
  have hres := (bst_all hg hl).len
  have i1 := pickF_lt (n := pick) (many := g.length + 1) (by omega)
  have r1 : (ints .i64 (buildF [] [0] g).2)[pickF pick (g.length + 1)]? = some (.int .i64 (gId g pick)) := ints_getD (by omega)
  (repeat' ((conv => whnf); first | (refine CallK_new (fun w hR => c1 w) ?_; rintro _ _ ⟨bn, fpn, rfl, rfl⟩; refine ⟨.v _, rfl, ?_⟩) | rw [Int.toNat_natCast] | rw [Nat.mul_one] | (first | refine CallK_pure (.v _) (fun w hR => p1 w) ?_ | refine QCall_pure (.v _) (fun w hR => p1 w) ?_) | refine ⟨_, rdO 804 rfl r1, ?_⟩ | (refine CallK_pack (key := 77) rfl (fun w hR h0 => c2 _ _ _ _ h0 (inCast1 hin hR)) ?_; rintro _ _ ⟨a5, c5, fp5, hn5, rfl, rfl⟩; refine ⟨.v _, rfl, ?_⟩) | ((refine CallK_new (fun w hR => c3 w (hin.cast hR (by simp))) ?_); rintro _ _ ⟨a1, c1, a2, c2, a3, c3, rfl, rfl⟩; refine ⟨.v _, rfl, ?_⟩) | refine ⟨_, ⟨rfl, trivial⟩, ?_⟩ | refine VC_drop 5 ?_ | (refine bcase_prop (fun h => ?_) (fun h => ?_) <;> try (exfalso; omega)) | (refine bcase_nprop (fun h => ?_) (fun h => ?_) <;> try (exfalso; omega)) | (refine bcase_intro (fun h => ?_) (fun h => ?_) <;> (try simp only [Bool.not_eq_true', Bool.not_eq_false', decide_eq_true_eq, decide_eq_false_iff_not, Bool.not_eq_true, Bool.not_eq_false, Decidable.not_not] at h)) | refine And.intro (by first | omega | exact rfl | assumption | exact ⟨rfl, rfl, rfl, rfl, rfl⟩ | exact ⟨rfl, rfl, rfl, rfl⟩ | exact ⟨rfl, by omega⟩ | exact oneAll_of rfl | exact ⟨rfl, oneAll_of rfl⟩ | exact Ref.refl _ | exact Thin.ref (.skip (Thin.refl _)) | exact Thin.ref (.skip (.skip (Thin.refl _))) | exact hn5 | exact Thin.ref (by (repeat (first | exact Thin.nil _ | exact Thin.refl _ | refine Thin.keep rfl (fun _ h => h) ?_ | refine Thin.skip ?_))) | exact ⟨rfl, Nat.le_of_ble_eq_true rfl⟩ | ((try unfold maxLen); (try simp only [List.length_nil, List.length_cons, List.length_append]); omega) | (refine ⟨rfl, ?_⟩; (try simp only [List.length_nil, List.length_cons, List.length_append]); omega)) ?_ | intro _)); (all_goals (conv => whnf))
  all_goals (refine ⟨⟨_, (refPick 77 rfl).trans (Thin.ref ?_), _, a1, c1, a2, c2, fp5, rfl, rfl⟩⟩)
  all_goals exact .keep rfl (fun _ h => h) (.skip (.keep rfl (fun _ h => h) (.keep rfl (fun _ h => h) (.nil _))))
end Go.Proofs.Ytohlphngnhcbfaa
/- A slice of makes that came in. No condition. -/
namespace Go.Proofs.Ytohlphngnhcbfaa
open Go.EG
set_option linter.unusedVariables false

theorem mak_of {vs : List Value} (h : RecOk [.i64, .u8, .i64, .i64, .i64] vs) : ∃ r : Rul, vs = ruC r ∧ MakB r := by
  match vs, h with
  | [.int k0 n0, .int k1 n1, .int k2 n2, .int k3 n3, .int k4 n4], h =>
    obtain ⟨⟨rfl, w0⟩, ⟨rfl, w1⟩, ⟨rfl, w2⟩, ⟨rfl, w3⟩, ⟨rfl, w4⟩, _⟩ := h
    have h0 := wf_i64 w0
    have h1 := wf_u8 w1
    have h2 := wf_i64 w2
    have h3 := wf_i64 w3
    have h4 := wf_i64 w4
    exact ⟨⟨n0, n1, n2, n3, n4⟩, rfl, ⟨h0, ⟨h1.1, by have := h1.2; show n1 < 256; omega⟩, h2, h3, h4⟩⟩
theorem maks_of : ∀ {rows : List (List Value)}, (∀ vs ∈ rows, RecOk [.i64, .u8, .i64, .i64, .i64] vs) →
    ∃ g : List Rul, rows.flatten = rulsC g ∧ g.length = rows.length ∧ ∀ i, i < g.length → MakB (g.getD i rul0)
  | [], _ => ⟨[], rfl, rfl, fun i h => absurd h (Nat.not_lt_zero i)⟩
  | vs :: rows, h => by
    obtain ⟨r, rfl, h1⟩ := mak_of (h vs List.mem_cons_self)
    obtain ⟨g, e1, e2, e3⟩ := maks_of fun vs hv => h vs (List.mem_cons_of_mem _ hv)
    refine ⟨r :: g, ?_, by simp [e2], fun i hi => ?_⟩
    · rw [List.flatten_cons, e1]; simp [rulsC]
    · cases i with
      | zero => exact h1
      | succ i => exact e3 i (by simpa using hi)
end Go.Proofs.Ytohlphngnhcbfaa
/- The way to a letter: the program. -/
namespace Go.Proofs.Ytohlphngnhcbfaa
open Go.EG
attribute [local irreducible] CallK QCall Go.Calls
set_option linter.unusedSimpArgs false
set_option linter.unusedVariables false
set_option maxRecDepth 20000
set_option maxHeartbeats 2000000

/-- What Path hands back. -/
def pthQ (key b : Nat) (S : Sto) (P : List Int) (v : Value) (L1 : List Ent) : Prop :=
  ∃ a c fp', v = .tuple #[.slice a P.length c, .nilIface] ∧ L1 = [packE key fp' (fS b S), .own 805 a P.length c ty_api_ID 1 (ints .i64 P)]
structure PthG where
  id : Int
  i : Nat
  acc : List Int
  a : Option Addr
  c : Nat
  fp : List Nat
theorem calls_Path (b : Nat) (S : Sto) (hw : WF S) (n i : Int) (hk : known S n) (h0 : 0 ≤ i) (hi : i < (tm S.E n).len) (key : Nat) (fp : List Nat) (w : World) (hR : StR w key fp b S) :
    Calls Try.prog fn_access_Path #[pS b, .int .i64 n, .int .i64 i] w fun e w' => ∃ v L1, e = .returned v ∧ R w fp L1 w' ∧ pthQ key b S (pathL S.E n i.toNat) v L1 := by
  refine part_call [.v (pS b), .v (.int .i64 n), .v (.int .i64 i)] ok_access_Path (by simp) (hR.key 77) ?_
  have hsm := hw.small
  have c0 := calls_SWeight b S n hsm
  rw [wtRes_ok hk] at c0
  have hi' : 0 ≤ i ∧ i < ((tm S.E n).txt.length : Nat) := ⟨h0, hi⟩
  have hn1 : 1 ≤ n := by
    have := hk.1
    by_cases h0 : n = 0
    · subst h0; rw [tm_zero] at hi; simp [Tm.len, Tm.txt] at hi; omega
    · omega
  generalize hP : pathL S.E n i.toNat = P at *
  (repeat' ((conv => whnf); first | (refine CallK_pack (key := 77) rfl (fun w hR h0 => c0 _ _ _ h0) ?_; rintro _ _ ⟨rfl, fp', rfl⟩; refine ⟨.v _, rfl, ?_⟩) | (refine bcase_prop (fun h => ?_) (fun h => ?_) <;> try (exfalso; omega)) | (refine bcase_nprop (fun h => ?_) (fun h => ?_) <;> try (exfalso; omega)) | (refine bcase_intro (fun h => ?_) (fun h => ?_) <;> (try simp only [Bool.not_eq_true', Bool.not_eq_false', decide_eq_true_eq, decide_eq_false_iff_not, Bool.not_eq_true, Bool.not_eq_false, Decidable.not_not] at h)) | refine And.intro (by first | omega | exact rfl | assumption | exact ⟨rfl, rfl, rfl, rfl, rfl⟩ | exact ⟨rfl, rfl, rfl, rfl⟩ | exact ⟨rfl, by omega⟩ | exact oneAll_of rfl | exact ⟨rfl, oneAll_of rfl⟩ | exact Ref.refl _ | exact Thin.ref (.skip (Thin.refl _)) | exact Thin.ref (.skip (.skip (Thin.refl _))) | exact ⟨rfl, Nat.le_of_ble_eq_true rfl⟩ | ((try unfold maxLen); (try simp only [List.length_nil, List.length_cons, List.length_append]); omega) | (refine ⟨rfl, ?_⟩; (try simp only [List.length_nil, List.length_cons, List.length_append]); omega)) ?_ | intro _)); (all_goals (conv => whnf))
  refine VC_loop PthG (fun x => [(0, .v (pS b)), (1, .v (.int .i64 x.id)), (2, .v (.int .i64 x.i)), (10, .sl 805 x.a x.acc.length x.c)]) (fun x => [packE 77 x.fp (fS b S), .own 805 x.a x.acc.length x.c ty_api_ID 1 (ints .i64 x.acc)])
    (fun x => 1 ≤ x.id ∧ x.id ≤ S.E.length ∧ x.i < (tm S.E x.id).len ∧ x.acc ++ pathL S.E x.id x.i = P ∧ x.acc.length + x.id ≤ n) (fun x => x.id.toNat) ⟨n, i.toNat, [], none, 0, fp'⟩ ⟨hn1, hk.2, by dsimp only; omega, by simpa using hP, by simp⟩ (by (repeat ((conv => whnf); refine And.intro (by first | exact rfl | exact vint_eq (by omega) | exact vint_eq (by (dsimp only; omega)) | exact vsl_eq (by omega) | exact vsl_eq (by first | (dsimp only; omega) | (simp; done) | (simp; omega))) ?_)); exact trivial) ((Ref.ownNil 805 ty_api_ID 1).trans ((refPick 77 rfl).trans (Thin.ref (by (repeat (first | exact Thin.nil _ | exact Thin.refl _ | refine Thin.keep rfl (fun _ h => h) ?_ | refine Thin.skip ?_)))))) ?_
  rintro ⟨m, j, acc, a, c, fpx⟩ ⟨h1, h2, h3, h4, h5⟩
  dsimp only at h1 h2 h3 h4 h5 ⊢
  have c1 := calls_Rule b S m hsm
  rw [ruleV_ok h1 h2] at c1
  have hlm := hw.le h2
  have hsn := ints_snoc .i64 acc m
  have hnn := hk.2
  rcases hw.below h1 h2 with ⟨hk1, ht⟩ | ⟨hk1, ht, a1, a2, b1, b2⟩ | ⟨hk1, ht, a1, a2, t2⟩
  · rw [pathL_let hk1] at h4
    subst h4
    (repeat' ((conv => whnf); first | rw [hsn] | (refine CallK_pack (key := 77) rfl (fun w hR h0 => c1 _ _ _ h0) ?_; rintro _ _ ⟨rfl, fp', rfl⟩; refine ⟨.v _, rfl, ?_⟩) | refine ⟨_, ⟨rfl, trivial⟩, ?_⟩ | (refine bcase_prop (fun h => ?_) (fun h => ?_) <;> try (exfalso; omega)) | (refine bcase_nprop (fun h => ?_) (fun h => ?_) <;> try (exfalso; omega)) | (refine bcase_intro (fun h => ?_) (fun h => ?_) <;> (try simp only [Bool.not_eq_true', Bool.not_eq_false', decide_eq_true_eq, decide_eq_false_iff_not, Bool.not_eq_true, Bool.not_eq_false, Decidable.not_not] at h)) | refine And.intro (by first | omega | exact rfl | assumption | exact ⟨rfl, rfl, rfl, rfl, rfl⟩ | exact ⟨rfl, rfl, rfl, rfl⟩ | exact ⟨rfl, by omega⟩ | exact oneAll_of rfl | exact ⟨rfl, oneAll_of rfl⟩ | exact Ref.refl _ | exact Thin.ref (.skip (Thin.refl _)) | exact Thin.ref (.skip (.skip (Thin.refl _))) | exact ⟨by unfold maxLen; omega, by omega⟩ | exact ⟨rfl, Nat.le_of_ble_eq_true rfl⟩ | ((try unfold maxLen); (try simp only [List.length_nil, List.length_cons, List.length_append]); omega) | (refine ⟨rfl, ?_⟩; (try simp only [List.length_nil, List.length_cons, List.length_append]); omega)) ?_ | intro _)); (all_goals (conv => whnf))
    all_goals first | (exfalso; omega) | skip
    rename_i a' c' b11
    exact ⟨⟨_, (refPick 77 rfl).trans (Thin.ref (Thin.packE (.skip (.skip (.own (by simp) rfl (.nil _)))))), a', c', _, by simp, rfl⟩⟩
  · have c2 := calls_SWeight b S (atE S.E m).r.a hsm
    rw [wtRes_ok ⟨by omega, by omega⟩] at c2
    have hp := hw.pos1 a1 (by omega)
    have hla := hw.le (n := (atE S.E m).r.a) (by omega)
    have c3 := calls_below (atE S.E m).r (tm S.E (atE S.E m).r.a).len j hp hla (by unfold LM at *; omega)
    rw [if_neg (by omega)] at c3
    rw [ht, Tm.len_pr] at h3
    by_cases hlt : j < (tm S.E (atE S.E m).r.a).len
    · rw [if_pos hlt] at c3
      rw [pathL_left hk1 a1 a2 hlt] at h4
      unfold Tm.len at c3 hlt
      (repeat' ((conv => whnf); first | rw [hsn] | (refine CallK_pack (key := 77) rfl (fun w hR h0 => c1 _ _ _ h0) ?_; rintro _ _ ⟨rfl, fp', rfl⟩; refine ⟨.v _, rfl, ?_⟩) | (refine CallK_pack (key := 77) rfl (fun w hR h0 => c2 _ _ _ h0) ?_; rintro _ _ ⟨rfl, fp', rfl⟩; refine ⟨.v _, rfl, ?_⟩) | (first | refine CallK_pure (.v _) (fun w hR => c3 w) ?_ | refine QCall_pure (.v _) (fun w hR => c3 w) ?_) | refine ⟨_, ⟨rfl, trivial⟩, ?_⟩ | (refine bcase_prop (fun h => ?_) (fun h => ?_) <;> try (exfalso; omega)) | (refine bcase_nprop (fun h => ?_) (fun h => ?_) <;> try (exfalso; omega)) | (refine bcase_intro (fun h => ?_) (fun h => ?_) <;> (try simp only [Bool.not_eq_true', Bool.not_eq_false', decide_eq_true_eq, decide_eq_false_iff_not, Bool.not_eq_true, Bool.not_eq_false, Decidable.not_not] at h)) | refine And.intro (by first | omega | exact rfl | assumption | exact ⟨rfl, rfl, rfl, rfl, rfl⟩ | exact ⟨rfl, rfl, rfl, rfl⟩ | exact ⟨rfl, by omega⟩ | exact oneAll_of rfl | exact ⟨rfl, oneAll_of rfl⟩ | exact Ref.refl _ | exact Thin.ref (.skip (Thin.refl _)) | exact Thin.ref (.skip (.skip (Thin.refl _))) | exact ⟨by unfold maxLen; omega, by omega⟩ | exact ⟨rfl, Nat.le_of_ble_eq_true rfl⟩ | ((try unfold maxLen); (try simp only [List.length_nil, List.length_cons, List.length_append]); omega) | (refine ⟨rfl, ?_⟩; (try simp only [List.length_nil, List.length_cons, List.length_append]); omega)) ?_ | intro _)); (all_goals (conv => whnf))
      rename_i a' c' fq b11 b13
      refine loop_next ⟨(atE S.E m).r.a, j, acc ++ [m], a', c', fp'⟩ ⟨a1, by dsimp only; omega, hlt, by simpa using h4, by simp only [List.length_append, List.length_cons, List.length_nil]; omega⟩ (by ((try dsimp only); omega)) (by (repeat ((conv => whnf); refine And.intro (by first | exact rfl | exact vint_eq (by omega) | exact vint_eq (by (dsimp only; omega)) | exact vsl_eq (by omega) | exact vsl_eq (by first | (dsimp only; omega) | (simp; done) | (simp; omega))) ?_)); exact trivial) ((refPick 77 rfl).trans (Thin.ref ?_))
      exact .keep rfl (fun _ h => h) (.skip (.skip (.skip (.own (by simp) rfl (.nil _)))))
    · rw [if_neg hlt] at c3
      rw [pathL_right hk1 b1 b2 hlt] at h4
      have h6 : j - (tm S.E (atE S.E m).r.a).len < (tm S.E (atE S.E m).r.b).len := by omega
      unfold Tm.len at c3
      (repeat' ((conv => whnf); first | rw [hsn] | (refine CallK_pack (key := 77) rfl (fun w hR h0 => c1 _ _ _ h0) ?_; rintro _ _ ⟨rfl, fp', rfl⟩; refine ⟨.v _, rfl, ?_⟩) | (refine CallK_pack (key := 77) rfl (fun w hR h0 => c2 _ _ _ h0) ?_; rintro _ _ ⟨rfl, fp', rfl⟩; refine ⟨.v _, rfl, ?_⟩) | (first | refine CallK_pure (.v _) (fun w hR => c3 w) ?_ | refine QCall_pure (.v _) (fun w hR => c3 w) ?_) | refine ⟨_, ⟨rfl, trivial⟩, ?_⟩ | (refine bcase_prop (fun h => ?_) (fun h => ?_) <;> try (exfalso; omega)) | (refine bcase_nprop (fun h => ?_) (fun h => ?_) <;> try (exfalso; omega)) | (refine bcase_intro (fun h => ?_) (fun h => ?_) <;> (try simp only [Bool.not_eq_true', Bool.not_eq_false', decide_eq_true_eq, decide_eq_false_iff_not, Bool.not_eq_true, Bool.not_eq_false, Decidable.not_not] at h)) | refine And.intro (by first | omega | exact rfl | assumption | exact ⟨rfl, rfl, rfl, rfl, rfl⟩ | exact ⟨rfl, rfl, rfl, rfl⟩ | exact ⟨rfl, by omega⟩ | exact oneAll_of rfl | exact ⟨rfl, oneAll_of rfl⟩ | exact Ref.refl _ | exact Thin.ref (.skip (Thin.refl _)) | exact Thin.ref (.skip (.skip (Thin.refl _))) | exact ⟨by unfold maxLen; omega, by omega⟩ | exact ⟨rfl, Nat.le_of_ble_eq_true rfl⟩ | ((try unfold maxLen); (try simp only [List.length_nil, List.length_cons, List.length_append]); omega) | (refine ⟨rfl, ?_⟩; (try simp only [List.length_nil, List.length_cons, List.length_append]); omega)) ?_ | intro _)); (all_goals (conv => whnf))
      rename_i a' c' fq b11 b13
      refine loop_next ⟨(atE S.E m).r.b, j - (tm S.E (atE S.E m).r.a).len, acc ++ [m], a', c', fp'⟩ ⟨b1, by dsimp only; omega, h6, by simpa using h4, by simp only [List.length_append, List.length_cons, List.length_nil]; omega⟩ (by ((try dsimp only); omega)) (by (repeat ((conv => whnf); refine And.intro (by first | exact rfl | exact vint_eq (by omega) | exact vint_eq (by (dsimp only; omega)) | exact vsl_eq (by omega) | exact vsl_eq (by first | (dsimp only; omega) | (simp; done) | (simp; omega))) ?_)); exact trivial) ((refPick 77 rfl).trans (Thin.ref ?_))
      exact .keep rfl (fun _ h => h) (.skip (.skip (.skip (.own (by simp) rfl (.nil _)))))
  · have c2 := calls_SWeight b S (atE S.E m).r.a hsm
    rw [wtRes_ok ⟨by omega, by omega⟩] at c2
    have hp := hw.pos1 a1 (by omega)
    have hla := hw.le (n := (atE S.E m).r.a) (by omega)
    have c3 := calls_below (atE S.E m).r (tm S.E (atE S.E m).r.a).len j hp hla (by unfold LM at *; omega)
    rw [if_pos hk1] at c3
    rw [ht, Tm.len_pw] at h3
    rw [pathL_pow hk1 a1 a2] at h4
    have h6 := Nat.mod_lt j (show 0 < (tm S.E (atE S.E m).r.a).len by omega)
    unfold Tm.len at c3
    (repeat' ((conv => whnf); first | rw [hsn] | (refine CallK_pack (key := 77) rfl (fun w hR h0 => c1 _ _ _ h0) ?_; rintro _ _ ⟨rfl, fp', rfl⟩; refine ⟨.v _, rfl, ?_⟩) | (refine CallK_pack (key := 77) rfl (fun w hR h0 => c2 _ _ _ h0) ?_; rintro _ _ ⟨rfl, fp', rfl⟩; refine ⟨.v _, rfl, ?_⟩) | (first | refine CallK_pure (.v _) (fun w hR => c3 w) ?_ | refine QCall_pure (.v _) (fun w hR => c3 w) ?_) | refine ⟨_, ⟨rfl, trivial⟩, ?_⟩ | (refine bcase_prop (fun h => ?_) (fun h => ?_) <;> try (exfalso; omega)) | (refine bcase_nprop (fun h => ?_) (fun h => ?_) <;> try (exfalso; omega)) | (refine bcase_intro (fun h => ?_) (fun h => ?_) <;> (try simp only [Bool.not_eq_true', Bool.not_eq_false', decide_eq_true_eq, decide_eq_false_iff_not, Bool.not_eq_true, Bool.not_eq_false, Decidable.not_not] at h)) | refine And.intro (by first | omega | exact rfl | assumption | exact ⟨rfl, rfl, rfl, rfl, rfl⟩ | exact ⟨rfl, rfl, rfl, rfl⟩ | exact ⟨rfl, by omega⟩ | exact oneAll_of rfl | exact ⟨rfl, oneAll_of rfl⟩ | exact Ref.refl _ | exact Thin.ref (.skip (Thin.refl _)) | exact Thin.ref (.skip (.skip (Thin.refl _))) | exact ⟨by unfold maxLen; omega, by omega⟩ | exact ⟨rfl, Nat.le_of_ble_eq_true rfl⟩ | ((try unfold maxLen); (try simp only [List.length_nil, List.length_cons, List.length_append]); omega) | (refine ⟨rfl, ?_⟩; (try simp only [List.length_nil, List.length_cons, List.length_append]); omega)) ?_ | intro _)); (all_goals (conv => whnf))
    rename_i a' c' fq b11 b13
    refine loop_next ⟨(atE S.E m).r.a, j % (tm S.E (atE S.E m).r.a).len, acc ++ [m], a', c', fp'⟩ ⟨a1, by dsimp only; omega, h6, by simpa using h4, by simp only [List.length_append, List.length_cons, List.length_nil]; omega⟩ (by ((try dsimp only); omega)) (by (repeat ((conv => whnf); refine And.intro (by first | exact rfl | exact vint_eq (by omega) | exact vint_eq (by (dsimp only; omega)) | exact vsl_eq (by omega) | exact vsl_eq (by first | (dsimp only; omega) | (simp; done) | (simp; omega))) ?_)); exact trivial) ((refPick 77 rfl).trans (Thin.ref ?_))
    exact .keep rfl (fun _ h => h) (.skip (.skip (.skip (.own (by simp) rfl (.nil _)))))
end Go.Proofs.Ytohlphngnhcbfaa
/- The letters of a range: the program. -/
namespace Go.Proofs.Ytohlphngnhcbfaa
open Go.EG
attribute [local irreducible] CallK QCall Go.Calls
set_option linter.unusedSimpArgs false
set_option linter.unusedVariables false
set_option maxRecDepth 20000
set_option maxHeartbeats 4000000

/-! ### Plain -/

def byC (t : List Nat) : List Value := t.map fun x : Nat => Value.int .u8 (x : Int)
theorem byC_length (t : List Nat) : (byC t).length = t.length := by simp [byC]
theorem byC_append (s t : List Nat) : byC s ++ byC t = byC (s ++ t) := by simp [byC]
theorem oneAll_by (t : List Nat) : oneAll (byC t) := by
  induction t with
  | nil => exact trivial
  | cons x t ih => exact ⟨trivial, ih⟩
abbrev cpC (x : Int × Nat) : List Value := [.int .i64 x.1, .int .i64 x.2]
def cpsC (l : List (Int × Nat)) : List Value := l.flatMap cpC
theorem cpsC_length : ∀ g : List (Int × Nat), (cpsC g).length = g.length * 2
  | [] => rfl
  | x :: g => by
    have := cpsC_length g
    simp only [cpsC, List.flatMap_cons, List.length_append, List.length_cons, List.length_nil] at this ⊢
    omega
theorem cpsC_append (g h : List (Int × Nat)) : cpsC g ++ cpsC h = cpsC (g ++ h) := by simp [cpsC]
theorem cpsC_take (g : List (Int × Nat)) (x : Int × Nat) : (cpsC (g ++ [x])).take (g.length * 2) = cpsC g := by
  rw [← cpsC_append, ← cpsC_length, List.take_left]
theorem cpsC_fst (g : List (Int × Nat)) (x : Int × Nat) : (cpsC (g ++ [x]))[g.length * 2]? = some (.int .i64 x.1) := by
  rw [← cpsC_append, ← cpsC_length, List.getElem?_append_right (Nat.le_refl _), Nat.sub_self]; rfl
theorem cpsC_snd (g : List (Int × Nat)) (x : Int × Nat) : (cpsC (g ++ [x]))[g.length * 2 + 1]? = some (.int .i64 x.2) := by
  rw [← cpsC_append, ← cpsC_length, List.getElem?_append_right (by omega), show (cpsC g).length + 1 - (cpsC g).length = 1 by omega]; rfl
theorem cpsC_set (g : List (Int × Nat)) (x : Int × Nat) (n : Nat) : splice (cpsC (g ++ [x])) (g.length * 2 + 1) [.int .i64 n] = cpsC (g ++ [(x.1, n)]) := by
  rw [← cpsC_append, ← cpsC_append, ← cpsC_length]
  unfold splice
  rw [List.take_append, List.take_of_length_le (by omega), show (cpsC g).length + 1 - (cpsC g).length = 1 by omega, List.drop_append, List.drop_eq_nil_of_le (by simp; omega)]
  rw [show (cpsC g).length + 1 + [Value.int .i64 (n : Int)].length - (cpsC g).length = 2 by simp; omega]
  simp [cpsC]

def cpTx (E : List Entr) : List (Int × Nat) → List Nat
  | [] => []
  | x :: st => cpTx E st ++ rep x.2 (tm E x.1).txt
theorem cpTx_append (E : List Entr) : ∀ (s t : List (Int × Nat)), cpTx E (s ++ t) = cpTx E t ++ cpTx E s
  | [], t => by simp [cpTx]
  | x :: s, t => by rw [List.cons_append, cpTx, cpTx_append E s t, cpTx, List.append_assoc]
def wkT : Tm → Nat
  | .nil => 0
  | .lt _ => 1
  | .pr a b => 1 + wkT a + wkT b
  | .pw a k => 1 + k * wkT a
def wkC (E : List Entr) : List (Int × Nat) → Nat
  | [] => 0
  | x :: st => x.2 * wkT (tm E x.1) + wkC E st
theorem wkC_append (E : List Entr) : ∀ (s t : List (Int × Nat)), wkC E (s ++ t) = wkC E s + wkC E t
  | [], t => by simp [wkC]
  | x :: s, t => by rw [List.cons_append, wkC, wkC_append E s t, wkC]; omega
def okCp (S : Sto) (st : List (Int × Nat)) : Prop := ∀ x ∈ st, 1 ≤ x.1 ∧ x.1 ≤ S.E.length ∧ 1 ≤ x.2
theorem okCp.snoc {S : Sto} {st : List (Int × Nat)} {x : Int × Nat} (h : okCp S st) (hx : 1 ≤ x.1 ∧ x.1 ≤ S.E.length ∧ 1 ≤ x.2) : okCp S (st ++ [x]) := fun y hy => by
  rcases List.mem_append.1 hy with hy | hy
  · exact h y hy
  · have : y = x := by simpa using hy
    rw [this]; exact hx
theorem okCp.init {S : Sto} {st : List (Int × Nat)} {x : Int × Nat} (h : okCp S (st ++ [x])) : okCp S st := fun y hy => h y (List.mem_append_left _ hy)
theorem okCp.last {S : Sto} {st : List (Int × Nat)} {x : Int × Nat} (h : okCp S (st ++ [x])) : 1 ≤ x.1 ∧ x.1 ≤ S.E.length ∧ 1 ≤ x.2 := h x (by simp)
theorem okCp.len {S : Sto} (hw : WF S) : ∀ {st : List (Int × Nat)}, okCp S st → st.length ≤ (cpTx S.E st).length
  | [], _ => Nat.zero_le _
  | x :: st, h => by
    have ih := okCp.len hw (st := st) fun y hy => h y (List.mem_cons_of_mem _ hy)
    obtain ⟨h1, h2, h3⟩ := h x List.mem_cons_self
    have hp := hw.pos1 h1 h2
    unfold Tm.len at hp
    rw [cpTx, List.length_append, rep_length, List.length_cons]
    have : 1 * 1 ≤ x.2 * (tm S.E x.1).txt.length := Nat.mul_le_mul h3 hp
    omega

/-- A range of a row of bytes of one's own, read. -/
theorem rdsO {w0 : World} {fp0 : List Nat} {L : List Ent} (key bk : Nat) {n c T i m : Nat} {xs ys : List Value} (h : ownAt key L = some ⟨some ⟨bk, 0, none⟩, n, c, T, 1, xs⟩) (hi : i < c) (hy : (xs.drop i).take m = ys) (hm : m = ys.length) : RdS w0 fp0 L (offA (some ⟨bk, 0, none⟩) c i 1) (m * 1) ys := by
  refine ⟨by rw [Nat.mul_one, hm], ?_⟩
  by_cases h0 : ys = []
  · exact .inl h0
  · refine .inr fun w hR => ⟨bk, i, ?_, fun j v hv => ?_⟩
    · unfold offA
      rw [if_neg (by omega), Nat.mul_one]
      simp [Addr.add]
      try omega
    · have hx : xs[i + j]? = some v := by
        rw [← hy, List.getElem?_take] at hv
        split at hv
        · simpa using hv
        · cases hv
      obtain ⟨g, ha, hc⟩ := cell_own hR h hx
      simp only [Option.some.injEq, Addr.mk.injEq, and_true] at ha
      subst ha
      exact hc

/-! ### A whole text -/

structure SpG where
  acc : List Nat
  st : List (Int × Nat)
  a : Option Addr
  c : Nat
  fp : List Nat
theorem calls_spell (b : Nat) (S : Sto) (hw : WF S) (x : Int) (h1 : 1 ≤ x) (h2 : x ≤ S.E.length) (bt bk c : Nat) (hc : c ≤ 65536) (acc : List Nat) (hfit : (acc ++ (tm S.E x).txt).length ≤ c) (fp fps : List Nat) (w : World)
    (hR : R w fp [packE 77 fps (fS b S), .box 13 bt [.slice (some ⟨bk, 0, none⟩) acc.length c] ty_Sl_uint8, .own 35 (some ⟨bk, 0, none⟩) acc.length c ty_uint8 1 (byC acc)] w) :
    Calls Try.prog fn_access_spell #[pS b, .int .i64 x, .pointer (some ⟨bt, 0, none⟩)] w fun e w' => ∃ v L1, e = .returned v ∧ R w fp L1 w' ∧ v = .nilIface ∧ ∃ fp', L1 = [packE 77 fp' (fS b S), .box 13 bt [.slice (some ⟨bk, 0, none⟩) (acc ++ (tm S.E x).txt).length c] ty_Sl_uint8, .own 35 (some ⟨bk, 0, none⟩) (acc ++ (tm S.E x).txt).length c ty_uint8 1 (byC (acc ++ (tm S.E x).txt))] := by
  refine part_call [.v (pS b), .v (.int .i64 x), .ptr 13 bt 0] ok_access_spell (by simp) hR ?_
  have hsm := hw.small
  generalize hT : acc ++ (tm S.E x).txt = T at *
  (repeat' ((conv => whnf); first | (refine bcase_prop (fun h => ?_) (fun h => ?_) <;> try (exfalso; omega)) | (refine bcase_nprop (fun h => ?_) (fun h => ?_) <;> try (exfalso; omega)) | (refine bcase_intro (fun h => ?_) (fun h => ?_) <;> (try simp only [Bool.not_eq_true', Bool.not_eq_false', decide_eq_true_eq, decide_eq_false_iff_not, Bool.not_eq_true, Bool.not_eq_false, Decidable.not_not] at h)) | refine And.intro (by first | omega | exact rfl | assumption | exact ⟨rfl, rfl, rfl, rfl, rfl⟩ | exact ⟨rfl, rfl, rfl, rfl⟩ | exact ⟨rfl, by omega⟩ | exact oneAll_of rfl | exact ⟨rfl, oneAll_of rfl⟩ | exact Ref.refl _ | exact Thin.ref (.skip (Thin.refl _)) | exact Thin.ref (.skip (.skip (Thin.refl _))) | exact ⟨rfl, Nat.le_of_ble_eq_true rfl⟩ | ((try unfold maxLen); (try simp only [List.length_nil, List.length_cons, List.length_append]); omega) | (refine ⟨rfl, ?_⟩; (try simp only [List.length_nil, List.length_cons, List.length_append]); omega)) ?_ | intro _)); (all_goals (conv => whnf))
  rename_i b14
  refine VC_loop SpG (fun y => [(0, .v (pS b)), (2, .ptr 13 bt 0), (7, .sl 500 y.a y.st.length y.c)]) (fun y => [packE 77 y.fp (fS b S), .own 500 y.a y.st.length y.c ty_access_copies 2 (cpsC y.st), .box 13 bt [.slice (some ⟨bk, 0, none⟩) y.acc.length c] ty_Sl_uint8, .own 35 (some ⟨bk, 0, none⟩) y.acc.length c ty_uint8 1 (byC y.acc)])
    (fun y => okCp S y.st ∧ y.acc ++ cpTx S.E y.st = T) (fun y => wkC S.E y.st) ⟨acc, [(x, 1)], some ⟨b14, 0, none⟩, 1, fps⟩ ⟨?_, ?_⟩ (by (repeat ((conv => whnf); refine And.intro (by first | exact rfl | exact vint_eq (by omega) | exact vint_eq (by (dsimp only; omega)) | exact vsl_eq (by omega) | exact vsl_eq (by first | (dsimp only; omega) | (simp; done) | (simp; omega))) ?_)); exact trivial) ((refPick 77 rfl).trans (Thin.ref (.keep rfl (fun _ h => h) (.own rfl rfl (Thin.refl _))))) ?_
  · intro y hy
    have : y = (x, 1) := by simpa using hy
    rw [this]; exact ⟨h1, h2, Nat.le_refl _⟩
  · simp only [cpTx, List.nil_append]
    rw [rep_one]; exact hT
  rintro ⟨acc, st, a, cc, fpx⟩ ⟨k1, k2⟩
  dsimp only at k1 k2 ⊢
  have hlen : acc.length + (cpTx S.E st).length = T.length := by rw [← k2, List.length_append]
  have hsl := k1.len hw
  rcases List.eq_nil_or_concat st with rfl | ⟨s, y, rfl⟩
  · rw [cpTx, List.append_nil] at k2
    subst k2
    (repeat' ((conv => whnf); first | (refine bcase_prop (fun h => ?_) (fun h => ?_) <;> try (exfalso; omega)) | (refine bcase_nprop (fun h => ?_) (fun h => ?_) <;> try (exfalso; omega)) | (refine bcase_intro (fun h => ?_) (fun h => ?_) <;> (try simp only [Bool.not_eq_true', Bool.not_eq_false', decide_eq_true_eq, decide_eq_false_iff_not, Bool.not_eq_true, Bool.not_eq_false, Decidable.not_not] at h)) | refine And.intro (by first | omega | exact rfl | assumption | exact ⟨rfl, rfl, rfl, rfl, rfl⟩ | exact ⟨rfl, rfl, rfl, rfl⟩ | exact ⟨rfl, by omega⟩ | exact oneAll_of rfl | exact ⟨rfl, oneAll_of rfl⟩ | exact Ref.refl _ | exact Thin.ref (.skip (Thin.refl _)) | exact Thin.ref (.skip (.skip (Thin.refl _))) | exact ⟨rfl, Nat.le_of_ble_eq_true rfl⟩ | ((try unfold maxLen); (try simp only [List.length_nil, List.length_cons, List.length_append]); omega) | (refine ⟨rfl, ?_⟩; (try simp only [List.length_nil, List.length_cons, List.length_append]); omega)) ?_ | intro _)); (all_goals (conv => whnf))
    exact ⟨⟨_, Thin.ref (.keep rfl (fun _ h => h) (.skip (Thin.refl _))), rfl, fpx, rfl⟩⟩
  rw [List.concat_eq_append] at k1 k2 hlen hsl ⊢
  have hsb : (s ++ [y]).length ≤ 65536 := by omega
  obtain ⟨m, t⟩ := y
  obtain ⟨m1, m2, m3⟩ := k1.last
  have hs := k1.init
  dsimp only at m1 m2 m3
  obtain ⟨t, rfl⟩ : ∃ t', t = t' + 1 := ⟨t - 1, by omega⟩
  have hle : (s ++ [(m, t + 1)]).length = s.length + 1 := by simp
  have hidx : (((s ++ [(m, t + 1)]).length : Int) - 1).toNat = s.length := by omega
  have r1 := cpsC_fst s (m, t + 1)
  have r2 := cpsC_snd s (m, t + 1)
  have r3 := cpsC_set s (m, t + 1) t
  have r4 := cpsC_snd s (m, t)
  have r5 := cpsC_take s (m, t)
  dsimp only at r1 r2 r3 r4 r5
  have e1 : ((t + 1 : Nat) : Int) - 1 = (t : Nat) := by omega
  have hll : s.length * 2 + 1 + 1 ≤ (cpsC (s ++ [(m, t + 1)])).length := by rw [cpsC_length, hle]; omega
  have c1 := calls_Rule b S m hsm
  rw [ruleV_ok m1 m2] at c1
  have hpt : cpTx S.E (s ++ [(m, t + 1)]) = (tm S.E m).txt ++ cpTx S.E (s ++ [(m, t)]) := by
    rw [cpTx_append, cpTx_append]
    simp only [cpTx, List.nil_append]
    rw [rep_succ, List.append_assoc]
  have hwk : wkC S.E (s ++ [(m, t + 1)]) = wkT (tm S.E m) + wkC S.E (s ++ [(m, t)]) := by
    rw [wkC_append, wkC_append]
    simp only [wkC, Nat.add_mul, Nat.one_mul]; omega
  have hpos0 := hw.pos1 m1 m2
  have htb : t ≤ 65536 := by
    have h1 : (cpTx S.E (s ++ [(m, t + 1)])).length = (t + 1) * (tm S.E m).len + (cpTx S.E s).length := by
      rw [cpTx_append, List.length_append]
      simp only [cpTx, List.nil_append]
      rw [rep_length]; rfl
    have h2 : (t + 1) * 1 ≤ (t + 1) * (tm S.E m).len := Nat.mul_le_mul_left _ hpos0
    omega
  rw [hpt] at k2 hlen hsl
  rw [List.length_append] at hlen hsl
  have hpop : t = 0 → cpTx S.E (s ++ [(m, t)]) = cpTx S.E s ∧ wkC S.E (s ++ [(m, t)]) = wkC S.E s := fun h => by
    subst h
    refine ⟨?_, ?_⟩
    · rw [cpTx_append]; simp [cpTx, rep]
    · rw [wkC_append]; simp [wkC]
  have hkeep : t ≠ 0 → okCp S (s ++ [(m, t)]) := fun h => hs.snoc ⟨m1, m2, by show 1 ≤ t; omega⟩
  have hpos := hw.pos1 m1 m2
  unfold Tm.len at hpos
  -- what is left behind the copy
  obtain ⟨s', hs'1, hs'2, hs'3, hs'4⟩ : ∃ s', s' = (if t = 0 then s else s ++ [(m, t)]) ∧ okCp S s' ∧ cpTx S.E s' = cpTx S.E (s ++ [(m, t)]) ∧ wkC S.E s' = wkC S.E (s ++ [(m, t)]) := by
    by_cases h : t = 0
    · exact ⟨s, by rw [if_pos h], hs, (hpop h).1.symm, (hpop h).2.symm⟩
    · exact ⟨s ++ [(m, t)], by rw [if_neg h], hkeep h, rfl, rfl⟩
  rw [← hs'3] at k2 hlen hsl
  rw [← hs'4] at hwk
  have hl2 : ((s ++ [(m, t)]).length) = s.length + 1 := by simp
  rcases hw.below m1 m2 with ⟨q1, ht⟩ | ⟨q1, ht, a1, a2, b1, b2⟩ | ⟨q1, ht, a1, a2, t2⟩
  · obtain ⟨l, hl⟩ : ∃ l : Nat, (atE S.E m).r.l = l := ⟨(atE S.E m).r.l.toNat, by have := (hw.at_ m1 m2).2.1; omega⟩
    rw [hl, Int.toNat_natCast] at ht
    rw [ht] at k2 hlen hsl hwk
    simp only [Tm.txt, List.length_cons, List.length_nil] at k2 hlen hsl
    simp only [wkT] at hwk
    have hby : byC acc ++ [.int .u8 l] = byC (acc ++ [l]) := byC_append acc [l]
    have hal : (acc ++ [l]).length = acc.length + 1 := by simp
    by_cases h : t = 0
    · rw [if_pos h] at hs'1
      subst h hs'1
      (repeat' ((conv => whnf); first | rw [hidx] | rw [e1] | rw [r3] | rw [r5] | rw [hl] | rw [hby] | (refine CallK_pack (key := 77) rfl (fun w hR h0 => c1 _ _ _ h0) ?_; rintro _ _ ⟨rfl, fp', rfl⟩; refine ⟨.v _, rfl, ?_⟩) | refine ldCell r1 ?_ | refine ldCell r2 ?_ | refine ldCell r4 ?_ | refine ⟨.sl 35 _ _ _, ⟨rfl, rfl, rfl, rfl⟩, ?_⟩ | (refine bcase_prop (fun h => ?_) (fun h => ?_) <;> try (exfalso; omega)) | (refine bcase_nprop (fun h => ?_) (fun h => ?_) <;> try (exfalso; omega)) | (refine bcase_intro (fun h => ?_) (fun h => ?_) <;> (try simp only [Bool.not_eq_true', Bool.not_eq_false', decide_eq_true_eq, decide_eq_false_iff_not, Bool.not_eq_true, Bool.not_eq_false, Decidable.not_not] at h)) | refine And.intro (by first | omega | exact rfl | assumption | exact ⟨rfl, rfl, rfl, rfl, rfl⟩ | exact ⟨rfl, rfl, rfl, rfl⟩ | exact ⟨rfl, by omega⟩ | exact oneAll_of rfl | exact ⟨rfl, oneAll_of rfl⟩ | exact Ref.refl _ | exact Thin.ref (.skip (Thin.refl _)) | exact Thin.ref (.skip (.skip (Thin.refl _))) | exact ⟨rfl, hll⟩ | exact ⟨rfl, rfl, rfl, rfl, rfl, by omega, by omega⟩ | exact fun _ => Thin.ref (by (repeat (first | exact Thin.nil _ | exact Thin.refl _ | refine Thin.keep rfl (fun _ h => h) ?_ | refine Thin.skip ?_))) | exact ⟨rfl, Nat.le_of_ble_eq_true rfl⟩ | ((try unfold maxLen); (try simp only [List.length_nil, List.length_cons, List.length_append]); omega) | (refine ⟨rfl, ?_⟩; (try simp only [List.length_nil, List.length_cons, List.length_append]); omega)) ?_ | intro _)); (all_goals (conv => whnf))
      all_goals first | (exfalso; omega) | skip
      all_goals (refine loop_next ⟨acc ++ [l], _, a, cc, fp'⟩ ⟨hs'2, by simpa using k2⟩ (by ((try dsimp only); omega)) (by (repeat ((conv => whnf); refine And.intro (by first | exact rfl | exact vint_eq (by omega) | exact vint_eq (by (dsimp only; omega)) | exact vsl_eq (by omega) | exact vsl_eq (by first | (dsimp only; omega) | (simp; done) | (simp; omega))) ?_)); exact trivial) ((refPick 77 rfl).trans (Thin.ref ?_)))
      all_goals (repeat (first | exact Thin.nil _ | exact Thin.refl _ | refine Thin.keep rfl (fun _ h => h) ?_ | refine Thin.own (by first | rfl | (simp; done) | omega) rfl ?_ | refine Thin.box (by first | rfl | (simp; done)) ?_ | refine Thin.skip ?_))
    · rw [if_neg h] at hs'1
      subst hs'1
      (repeat' ((conv => whnf); first | rw [hidx] | rw [e1] | rw [r3] | (refine CallK_pack (key := 77) rfl (fun w hR h0 => c1 _ _ _ h0) ?_; rintro _ _ ⟨rfl, fp', rfl⟩; refine ⟨.v _, rfl, ?_⟩) | refine ldCell r1 ?_ | refine ldCell r2 ?_ | refine ldCell r4 ?_ | rw [hl] | rw [hby] | refine ⟨.sl 35 _ _ _, ⟨rfl, rfl, rfl, rfl⟩, ?_⟩ | (refine bcase_prop (fun h => ?_) (fun h => ?_) <;> try (exfalso; omega)) | (refine bcase_nprop (fun h => ?_) (fun h => ?_) <;> try (exfalso; omega)) | (refine bcase_intro (fun h => ?_) (fun h => ?_) <;> (try simp only [Bool.not_eq_true', Bool.not_eq_false', decide_eq_true_eq, decide_eq_false_iff_not, Bool.not_eq_true, Bool.not_eq_false, Decidable.not_not] at h)) | refine And.intro (by first | omega | exact rfl | assumption | exact ⟨rfl, rfl, rfl, rfl, rfl⟩ | exact ⟨rfl, rfl, rfl, rfl⟩ | exact ⟨rfl, by omega⟩ | exact oneAll_of rfl | exact ⟨rfl, oneAll_of rfl⟩ | exact Ref.refl _ | exact Thin.ref (.skip (Thin.refl _)) | exact Thin.ref (.skip (.skip (Thin.refl _))) | exact ⟨rfl, hll⟩ | exact ⟨rfl, rfl, rfl, rfl, rfl, by omega, by omega⟩ | exact fun _ => Thin.ref (by (repeat (first | exact Thin.nil _ | exact Thin.refl _ | refine Thin.keep rfl (fun _ h => h) ?_ | refine Thin.skip ?_))) | exact ⟨rfl, Nat.le_of_ble_eq_true rfl⟩ | ((try unfold maxLen); (try simp only [List.length_nil, List.length_cons, List.length_append]); omega) | (refine ⟨rfl, ?_⟩; (try simp only [List.length_nil, List.length_cons, List.length_append]); omega)) ?_ | intro _)); (all_goals (conv => whnf))
      all_goals first | (exfalso; omega) | skip
      all_goals (refine loop_next ⟨acc ++ [l], _, a, cc, fp'⟩ ⟨hs'2, by simpa using k2⟩ (by ((try dsimp only); omega)) (by (repeat ((conv => whnf); refine And.intro (by first | exact rfl | exact vint_eq (by omega) | exact vint_eq (by (dsimp only; omega)) | exact vsl_eq (by omega) | exact vsl_eq (by first | (dsimp only; omega) | (simp; done) | (simp; omega))) ?_)); exact trivial) ((refPick 77 rfl).trans (Thin.ref ?_)))
      all_goals (repeat (first | exact Thin.nil _ | exact Thin.refl _ | refine Thin.keep rfl (fun _ h => h) ?_ | refine Thin.own (by first | rfl | (simp; done) | omega) rfl ?_ | refine Thin.box (by first | rfl | (simp; done)) ?_ | refine Thin.skip ?_))
  · rw [ht] at k2 hwk
    simp only [Tm.txt, wkT] at k2 hwk
    have hsn : ∀ u : List (Int × Nat), cpsC u ++ [.int .i64 (atE S.E m).r.b, .int .i64 1, .int .i64 (atE S.E m).r.a, .int .i64 1] = cpsC (u ++ [((atE S.E m).r.b, 1), ((atE S.E m).r.a, 1)]) := fun u => cpsC_append u [((atE S.E m).r.b, 1), ((atE S.E m).r.a, 1)]
    have hok : okCp S (s' ++ [((atE S.E m).r.b, 1), ((atE S.E m).r.a, 1)]) := by
      have := (hs'2.snoc (x := ((atE S.E m).r.b, 1)) ⟨b1, by dsimp only; omega, Nat.le_refl _⟩).snoc (x := ((atE S.E m).r.a, 1)) ⟨a1, by dsimp only; omega, Nat.le_refl _⟩
      simpa using this
    have htx : acc ++ cpTx S.E (s' ++ [((atE S.E m).r.b, 1), ((atE S.E m).r.a, 1)]) = T := by
      rw [cpTx_append]
      simp only [cpTx, rep_one, List.nil_append, List.append_assoc] at k2 ⊢
      exact k2
    have hmu : wkC S.E (s' ++ [((atE S.E m).r.b, 1), ((atE S.E m).r.a, 1)]) < wkC S.E (s ++ [(m, t + 1)]) := by
      rw [wkC_append, hwk]
      simp only [wkC, Nat.one_mul]; omega
    have hul : ∀ u : List (Int × Nat), (u ++ [((atE S.E m).r.b, 1), ((atE S.E m).r.a, 1)]).length = u.length + 2 := fun u => by simp
    by_cases h : t = 0
    · rw [if_pos h] at hs'1
      subst h hs'1
      (repeat' ((conv => whnf); first | rw [hidx] | rw [e1] | rw [r3] | rw [r5] | (refine CallK_pack (key := 77) rfl (fun w hR h0 => c1 _ _ _ h0) ?_; rintro _ _ ⟨rfl, fp', rfl⟩; refine ⟨.v _, rfl, ?_⟩) | refine ldCell r1 ?_ | refine ldCell r2 ?_ | refine ldCell r4 ?_ | rw [hsn] | (refine bcase_prop (fun h => ?_) (fun h => ?_) <;> try (exfalso; omega)) | (refine bcase_nprop (fun h => ?_) (fun h => ?_) <;> try (exfalso; omega)) | (refine bcase_intro (fun h => ?_) (fun h => ?_) <;> (try simp only [Bool.not_eq_true', Bool.not_eq_false', decide_eq_true_eq, decide_eq_false_iff_not, Bool.not_eq_true, Bool.not_eq_false, Decidable.not_not] at h)) | refine And.intro (by first | omega | exact rfl | assumption | exact ⟨rfl, rfl, rfl, rfl, rfl⟩ | exact ⟨rfl, rfl, rfl, rfl⟩ | exact ⟨rfl, by omega⟩ | exact oneAll_of rfl | exact ⟨rfl, oneAll_of rfl⟩ | exact Ref.refl _ | exact Thin.ref (.skip (Thin.refl _)) | exact Thin.ref (.skip (.skip (Thin.refl _))) | exact ⟨rfl, hll⟩ | exact ⟨by unfold maxLen; omega, by omega⟩ | exact ⟨rfl, Nat.le_of_ble_eq_true rfl⟩ | ((try unfold maxLen); (try simp only [List.length_nil, List.length_cons, List.length_append]); omega) | (refine ⟨rfl, ?_⟩; (try simp only [List.length_nil, List.length_cons, List.length_append]); omega)) ?_ | intro _)); (all_goals (conv => whnf))
      all_goals first | (exfalso; omega) | skip
      all_goals rename_i a' c'
      all_goals (refine loop_next ⟨acc, _, a', c', fp'⟩ ⟨hok, htx⟩ hmu (by (repeat ((conv => whnf); refine And.intro (by first | exact rfl | exact vint_eq (by omega) | exact vint_eq (by (dsimp only; omega)) | exact vsl_eq (by omega) | exact vsl_eq (by first | (dsimp only; omega) | (simp; done) | (simp; omega))) ?_)); exact trivial) ((refPick 77 rfl).trans (Thin.ref ?_)))
      all_goals (repeat (first | exact Thin.nil _ | exact Thin.refl _ | refine Thin.keep rfl (fun _ h => h) ?_ | refine Thin.own (by first | rfl | (simp; done) | omega) rfl ?_ | refine Thin.box (by first | rfl | (simp; done)) ?_ | refine Thin.skip ?_))
    · rw [if_neg h] at hs'1
      have hsn' := hsn
      subst hs'1
      (repeat' ((conv => whnf); first | rw [hidx] | rw [e1] | rw [r3] | (refine CallK_pack (key := 77) rfl (fun w hR h0 => c1 _ _ _ h0) ?_; rintro _ _ ⟨rfl, fp', rfl⟩; refine ⟨.v _, rfl, ?_⟩) | refine ldCell r1 ?_ | refine ldCell r2 ?_ | refine ldCell r4 ?_ | rw [hsn] | (refine bcase_prop (fun h => ?_) (fun h => ?_) <;> try (exfalso; omega)) | (refine bcase_nprop (fun h => ?_) (fun h => ?_) <;> try (exfalso; omega)) | (refine bcase_intro (fun h => ?_) (fun h => ?_) <;> (try simp only [Bool.not_eq_true', Bool.not_eq_false', decide_eq_true_eq, decide_eq_false_iff_not, Bool.not_eq_true, Bool.not_eq_false, Decidable.not_not] at h)) | refine And.intro (by first | omega | exact rfl | assumption | exact ⟨rfl, rfl, rfl, rfl, rfl⟩ | exact ⟨rfl, rfl, rfl, rfl⟩ | exact ⟨rfl, by omega⟩ | exact oneAll_of rfl | exact ⟨rfl, oneAll_of rfl⟩ | exact Ref.refl _ | exact Thin.ref (.skip (Thin.refl _)) | exact Thin.ref (.skip (.skip (Thin.refl _))) | exact ⟨rfl, hll⟩ | exact ⟨by unfold maxLen; omega, by omega⟩ | exact ⟨rfl, Nat.le_of_ble_eq_true rfl⟩ | ((try unfold maxLen); (try simp only [List.length_nil, List.length_cons, List.length_append]); omega) | (refine ⟨rfl, ?_⟩; (try simp only [List.length_nil, List.length_cons, List.length_append]); omega)) ?_ | intro _)); (all_goals (conv => whnf))
      all_goals first | (exfalso; omega) | skip
      all_goals rename_i a' c'
      all_goals (refine loop_next ⟨acc, _, a', c', fp'⟩ ⟨hok, htx⟩ hmu (by (repeat ((conv => whnf); refine And.intro (by first | exact rfl | exact vint_eq (by omega) | exact vint_eq (by (dsimp only; omega)) | exact vsl_eq (by omega) | exact vsl_eq (by first | (dsimp only; omega) | (simp; done) | (simp; omega))) ?_)); exact trivial) ((refPick 77 rfl).trans (Thin.ref ?_)))
      all_goals (repeat (first | exact Thin.nil _ | exact Thin.refl _ | refine Thin.keep rfl (fun _ h => h) ?_ | refine Thin.own (by first | rfl | (simp; done) | omega) rfl ?_ | refine Thin.box (by first | rfl | (simp; done)) ?_ | refine Thin.skip ?_))
  · rw [ht] at k2 hwk
    obtain ⟨q, hq⟩ : ∃ q : Nat, (atE S.E m).r.t = q := ⟨(atE S.E m).r.t.toNat, by omega⟩
    rw [hq, Int.toNat_natCast] at k2 hwk
    simp only [Tm.txt, wkT] at k2 hwk
    have hsn : ∀ u : List (Int × Nat), cpsC u ++ [.int .i64 (atE S.E m).r.a, .int .i64 q] = cpsC (u ++ [((atE S.E m).r.a, q)]) := fun u => cpsC_append u [((atE S.E m).r.a, q)]
    have hok : okCp S (s' ++ [((atE S.E m).r.a, q)]) := hs'2.snoc (x := ((atE S.E m).r.a, q)) ⟨a1, by dsimp only; omega, by show 1 ≤ q; omega⟩
    have htx : acc ++ cpTx S.E (s' ++ [((atE S.E m).r.a, q)]) = T := by
      rw [cpTx_append]
      simp only [cpTx, List.nil_append] at k2 ⊢
      exact k2
    have hmu : wkC S.E (s' ++ [((atE S.E m).r.a, q)]) < wkC S.E (s ++ [(m, t + 1)]) := by
      rw [wkC_append, hwk]
      simp only [wkC]; omega
    have hul : ∀ u : List (Int × Nat), (u ++ [((atE S.E m).r.a, q)]).length = u.length + 1 := fun u => by simp
    by_cases h : t = 0
    · rw [if_pos h] at hs'1
      subst h hs'1
      (repeat' ((conv => whnf); first | rw [hidx] | rw [e1] | rw [r3] | rw [r5] | (refine CallK_pack (key := 77) rfl (fun w hR h0 => c1 _ _ _ h0) ?_; rintro _ _ ⟨rfl, fp', rfl⟩; refine ⟨.v _, rfl, ?_⟩) | refine ldCell r1 ?_ | refine ldCell r2 ?_ | refine ldCell r4 ?_ | rw [hq] | rw [hsn] | (refine bcase_prop (fun h => ?_) (fun h => ?_) <;> try (exfalso; omega)) | (refine bcase_nprop (fun h => ?_) (fun h => ?_) <;> try (exfalso; omega)) | (refine bcase_intro (fun h => ?_) (fun h => ?_) <;> (try simp only [Bool.not_eq_true', Bool.not_eq_false', decide_eq_true_eq, decide_eq_false_iff_not, Bool.not_eq_true, Bool.not_eq_false, Decidable.not_not] at h)) | refine And.intro (by first | omega | exact rfl | assumption | exact ⟨rfl, rfl, rfl, rfl, rfl⟩ | exact ⟨rfl, rfl, rfl, rfl⟩ | exact ⟨rfl, by omega⟩ | exact oneAll_of rfl | exact ⟨rfl, oneAll_of rfl⟩ | exact Ref.refl _ | exact Thin.ref (.skip (Thin.refl _)) | exact Thin.ref (.skip (.skip (Thin.refl _))) | exact ⟨rfl, hll⟩ | exact ⟨by unfold maxLen; omega, by omega⟩ | exact ⟨rfl, Nat.le_of_ble_eq_true rfl⟩ | ((try unfold maxLen); (try simp only [List.length_nil, List.length_cons, List.length_append]); omega) | (refine ⟨rfl, ?_⟩; (try simp only [List.length_nil, List.length_cons, List.length_append]); omega)) ?_ | intro _)); (all_goals (conv => whnf))
      all_goals first | (exfalso; omega) | skip
      all_goals rename_i a' c'
      all_goals (refine loop_next ⟨acc, _, a', c', fp'⟩ ⟨hok, htx⟩ hmu (by (repeat ((conv => whnf); refine And.intro (by first | exact rfl | exact vint_eq (by omega) | exact vint_eq (by (dsimp only; omega)) | exact vsl_eq (by omega) | exact vsl_eq (by first | (dsimp only; omega) | (simp; done) | (simp; omega))) ?_)); exact trivial) ((refPick 77 rfl).trans (Thin.ref ?_)))
      all_goals (repeat (first | exact Thin.nil _ | exact Thin.refl _ | refine Thin.keep rfl (fun _ h => h) ?_ | refine Thin.own (by first | rfl | (simp; done) | omega) rfl ?_ | refine Thin.box (by first | rfl | (simp; done)) ?_ | refine Thin.skip ?_))
    · rw [if_neg h] at hs'1
      have hsn' := hsn
      subst hs'1
      (repeat' ((conv => whnf); first | rw [hidx] | rw [e1] | rw [r3] | (refine CallK_pack (key := 77) rfl (fun w hR h0 => c1 _ _ _ h0) ?_; rintro _ _ ⟨rfl, fp', rfl⟩; refine ⟨.v _, rfl, ?_⟩) | refine ldCell r1 ?_ | refine ldCell r2 ?_ | refine ldCell r4 ?_ | rw [hq] | rw [hsn] | (refine bcase_prop (fun h => ?_) (fun h => ?_) <;> try (exfalso; omega)) | (refine bcase_nprop (fun h => ?_) (fun h => ?_) <;> try (exfalso; omega)) | (refine bcase_intro (fun h => ?_) (fun h => ?_) <;> (try simp only [Bool.not_eq_true', Bool.not_eq_false', decide_eq_true_eq, decide_eq_false_iff_not, Bool.not_eq_true, Bool.not_eq_false, Decidable.not_not] at h)) | refine And.intro (by first | omega | exact rfl | assumption | exact ⟨rfl, rfl, rfl, rfl, rfl⟩ | exact ⟨rfl, rfl, rfl, rfl⟩ | exact ⟨rfl, by omega⟩ | exact oneAll_of rfl | exact ⟨rfl, oneAll_of rfl⟩ | exact Ref.refl _ | exact Thin.ref (.skip (Thin.refl _)) | exact Thin.ref (.skip (.skip (Thin.refl _))) | exact ⟨rfl, hll⟩ | exact ⟨by unfold maxLen; omega, by omega⟩ | exact ⟨rfl, Nat.le_of_ble_eq_true rfl⟩ | ((try unfold maxLen); (try simp only [List.length_nil, List.length_cons, List.length_append]); omega) | (refine ⟨rfl, ?_⟩; (try simp only [List.length_nil, List.length_cons, List.length_append]); omega)) ?_ | intro _)); (all_goals (conv => whnf))
      all_goals first | (exfalso; omega) | skip
      all_goals rename_i a' c'
      all_goals (refine loop_next ⟨acc, _, a', c', fp'⟩ ⟨hok, htx⟩ hmu (by (repeat ((conv => whnf); refine And.intro (by first | exact rfl | exact vint_eq (by omega) | exact vint_eq (by (dsimp only; omega)) | exact vsl_eq (by omega) | exact vsl_eq (by first | (dsimp only; omega) | (simp; done) | (simp; omega))) ?_)); exact trivial) ((refPick 77 rfl).trans (Thin.ref ?_)))
      all_goals (repeat (first | exact Thin.nil _ | exact Thin.refl _ | refine Thin.keep rfl (fun _ h => h) ?_ | refine Thin.own (by first | rfl | (simp; done) | omega) rfl ?_ | refine Thin.box (by first | rfl | (simp; done)) ?_ | refine Thin.skip ?_))

/-! ### The visitor -/

theorem _root_.Go.EG.Ref.unpackU' {w0 : World} {fp0 : List Nat} {L : List Ent} {key : Nat} {fp : List Nat} {f : Unit → List Ent} : Ref w0 fp0 (packE key fp f :: L) (f () ++ L) := fun w hR => by
  obtain ⟨x, _, h⟩ := hR.unpack
  exact h
/-- What the visitor writes: the boxes of the store's pointer and of the text, and the text. -/
def fX (b b4 bt bk N : Nat) (acc : List Nat) : Unit → List Ent := fun _ => [.box 4 b4 [pS b] ty_P_intern_Store, .box 13 bt [.slice (some ⟨bk, 0, none⟩) acc.length N] ty_Sl_uint8, .own 35 (some ⟨bk, 0, none⟩) acc.length N ty_uint8 1 (byC acc)]
structure VxG where
  i : Nat
  fp : List Nat
theorem visX (b : Nat) (S : Sto) (hw : WF S) (b4 bt bk N : Nat) (hN : N ≤ 65536) : VisOk S b N fn_access_Extract_1 [.pointer (some ⟨bt, 0, none⟩), .pointer (some ⟨b4, 0, none⟩)] (fX b b4 bt bk N) := by
  intro acc x k h1 h2 h3 h4 fp1 fp2 w hR
  replace hR := (Ref.unpackU' w hR : R _ _ ([.box 4 b4 [pS b] ty_P_intern_Store, .box 13 bt [.slice (some ⟨bk, 0, none⟩) acc.length N] ty_Sl_uint8, .own 35 (some ⟨bk, 0, none⟩) acc.length N ty_uint8 1 (byC acc)] ++ _) w)
  refine part_call [.v (.int .i64 x), .v (.int .i64 k), .ptr 13 bt 0, .ptr 4 b4 0] ok_access_Extract_1 (by simp) hR ?_
  generalize hT : (tm S.E x).txt = T at *
  have hpos := hw.pos1 h1 h2
  unfold Tm.len at hpos
  rw [hT] at hpos
  have hA : ∀ j, j ≤ k → (acc ++ rep j T).length ≤ N := fun j hj => by
    rw [List.length_append, rep_length] at h4 ⊢
    have := Nat.mul_le_mul_right T.length hj
    omega
  have h1N := hA 1 h3
  rw [rep_one] at h1N
  have hk : k ≤ 65536 := by
    rw [List.length_append, rep_length] at h4
    have := Nat.mul_le_mul_left k hpos
    omega
  have c1 := fun fp w fps h => calls_spell b S hw x h1 h2 bt bk N hN acc (by rw [hT]; exact h1N) fp fps w h
  rw [hT] at c1
  have e1 : acc ++ T = acc ++ rep 1 T := by rw [rep_one]
  rw [e1] at c1
  have l1 : (acc ++ rep 1 T).length = acc.length + T.length := by rw [List.length_append, rep_length, Nat.one_mul]
  have hA1 := hA 1 h3
  (repeat' ((conv => whnf); first | refine ⟨.sl 35 _ _ _, ⟨rfl, rfl, rfl, rfl⟩, ?_⟩ | refine ⟨.v _, ⟨rfl, trivial⟩, ?_⟩ | rw [Int.toNat_natCast] | (refine CallK_heap (L0 := [packE 77 fp2 (fS b S), .box 13 bt [.slice (some ⟨bk, 0, none⟩) acc.length N] ty_Sl_uint8, .own 35 (some ⟨bk, 0, none⟩) acc.length N ty_uint8 1 (byC acc)]) (Lr := [.box 4 b4 [pS b] ty_P_intern_Store]) ((List.perm_append_comm (l₁ := [_]) (l₂ := [_, _, _])).trans (List.Perm.append_right _ (List.perm_append_comm (l₁ := [_, _]) (l₂ := [_])))) (fun w hR hR0 => c1 _ _ _ hR0) ?_; rintro _ _ ⟨rfl, fp', rfl⟩; refine ⟨.v _, rfl, ?_⟩) | (refine bcase_prop (fun h => ?_) (fun h => ?_) <;> try (exfalso; omega)) | (refine bcase_nprop (fun h => ?_) (fun h => ?_) <;> try (exfalso; omega)) | (refine bcase_intro (fun h => ?_) (fun h => ?_) <;> (try simp only [Bool.not_eq_true', Bool.not_eq_false', decide_eq_true_eq, decide_eq_false_iff_not, Bool.not_eq_true, Bool.not_eq_false, Decidable.not_not] at h)) | refine And.intro (by first | omega | exact rfl | assumption | exact ⟨rfl, rfl, rfl, rfl, rfl⟩ | exact ⟨rfl, rfl, rfl, rfl⟩ | exact ⟨rfl, by omega⟩ | exact oneAll_of rfl | exact ⟨rfl, oneAll_of rfl⟩ | exact Ref.refl _ | exact Thin.ref (.skip (Thin.refl _)) | exact Thin.ref (.skip (.skip (Thin.refl _))) | exact ⟨rfl, Nat.le_of_ble_eq_true rfl⟩ | ((try unfold maxLen); (try simp only [List.length_nil, List.length_cons, List.length_append]); omega) | (refine ⟨rfl, ?_⟩; (try simp only [List.length_nil, List.length_cons, List.length_append]); omega)) ?_ | intro _)); (all_goals (conv => whnf))
  refine VC_loop VxG (fun y => [(1, .v (.int .i64 k)), (2, .ptr 13 bt 0), (9, .v (.slice (offA (some ⟨bk, 0, none⟩) N acc.length 1) ((acc ++ rep 1 T).length - acc.length) (N - acc.length))), (22, .v (.int .i64 ((k : Int) - 1))), (23, .v (.int .i64 y.i))])
    (fun y => [packE 77 y.fp (fS b S), .box 13 bt [.slice (some ⟨bk, 0, none⟩) (acc ++ rep (y.i + 1) T).length N] ty_Sl_uint8, .own 35 (some ⟨bk, 0, none⟩) (acc ++ rep (y.i + 1) T).length N ty_uint8 1 (byC (acc ++ rep (y.i + 1) T)), .box 4 b4 [pS b] ty_P_intern_Store])
    (fun y => y.i + 1 ≤ k) (fun y => k - y.i) ⟨0, fp'⟩ h3 (by (repeat ((conv => whnf); refine And.intro (by first | exact rfl | exact vint_eq (by omega) | exact vint_eq (by (dsimp only; omega)) | exact vsl_eq (by omega) | exact vsl_eq (by first | (dsimp only; omega) | (simp; done) | (simp; omega))) ?_)); exact trivial) (Thin.ref (Thin.refl _)) ?_
  rintro ⟨i, fpx⟩ hi
  dsimp only at hi ⊢
  have l2 : (acc ++ rep (i + 1) T).length + T.length = (acc ++ rep (i + 1 + 1) T).length := by
    rw [List.length_append, List.length_append, rep_length, rep_length, Nat.succ_mul (i + 1)]; omega
  have hd : ((byC (acc ++ rep (i + 1) T)).drop acc.length).take ((acc ++ rep 1 T).length - acc.length) = byC T := by
    rw [l1, Nat.add_sub_cancel_left, ← byC_append, rep_succ, ← byC_append, show acc.length = (byC acc).length by rw [byC_length], List.drop_left, show T.length = (byC T).length by rw [byC_length], List.take_left]
  have happ : byC (acc ++ rep (i + 1) T) ++ byC T = byC (acc ++ rep (i + 1 + 1) T) := by
    rw [byC_append, List.append_assoc, show rep (i + 1) T ++ T = rep (i + 1 + 1) T from by rw [rep_add (i + 1) 1, rep_one]]
  have hml : (acc ++ rep 1 T).length - acc.length = (byC T).length := by rw [l1, byC_length]; omega
  by_cases hlt : i + 1 < k
  · have hA2 := hA (i + 1 + 1) hlt
    (repeat' ((conv => whnf); first | rw [happ] | refine ⟨.sl 35 _ _ _, ⟨rfl, rfl, rfl, rfl⟩, ?_⟩ | refine ⟨byC T, rdsO 35 bk rfl (by omega) hd hml, ?_⟩ | (refine bcase_prop (fun h => ?_) (fun h => ?_) <;> try (exfalso; omega)) | (refine bcase_nprop (fun h => ?_) (fun h => ?_) <;> try (exfalso; omega)) | (refine bcase_intro (fun h => ?_) (fun h => ?_) <;> (try simp only [Bool.not_eq_true', Bool.not_eq_false', decide_eq_true_eq, decide_eq_false_iff_not, Bool.not_eq_true, Bool.not_eq_false, Decidable.not_not] at h)) | refine And.intro (by first | omega | exact rfl | assumption | exact ⟨rfl, rfl, rfl, rfl, rfl⟩ | exact ⟨rfl, rfl, rfl, rfl⟩ | exact ⟨rfl, by omega⟩ | exact oneAll_of rfl | exact ⟨rfl, oneAll_of rfl⟩ | exact Ref.refl _ | exact Thin.ref (.skip (Thin.refl _)) | exact Thin.ref (.skip (.skip (Thin.refl _))) | exact oneAll_by T | exact ⟨rfl, rfl, rfl, rfl, rfl, by omega, by omega⟩ | exact ⟨rfl, Nat.le_of_ble_eq_true rfl⟩ | ((try unfold maxLen); (try simp only [List.length_nil, List.length_cons, List.length_append]); omega) | (refine ⟨rfl, ?_⟩; (try simp only [List.length_nil, List.length_cons, List.length_append]); omega)) ?_ | intro _)); (all_goals (conv => whnf))
    refine loop_next ⟨i + 1, fpx⟩ hlt (by ((try dsimp only); omega)) (by (repeat ((conv => whnf); refine And.intro (by first | exact rfl | exact vint_eq (by omega) | exact vint_eq (by (dsimp only; omega)) | exact vsl_eq (by omega) | exact vsl_eq (by first | (dsimp only; omega) | (simp; done) | (simp; omega))) ?_)); exact trivial) (Thin.ref ?_)
    refine .keep rfl (fun _ h => h) (.box ?_ (.own ?_ rfl (.keep rfl (fun _ h => h) (.nil _))))
    · rw [show (acc ++ rep (i + 1) T).length + ((acc ++ rep 1 T).length - acc.length) = (acc ++ rep (i + 1 + 1) T).length from by omega]
    · show _ = (acc ++ rep (i + 1 + 1) T).length
      omega
  · have hik : i + 1 = k := by omega
    rw [hik]
    (repeat' ((conv => whnf); first | (refine bcase_prop (fun h => ?_) (fun h => ?_) <;> try (exfalso; omega)) | (refine bcase_nprop (fun h => ?_) (fun h => ?_) <;> try (exfalso; omega)) | (refine bcase_intro (fun h => ?_) (fun h => ?_) <;> (try simp only [Bool.not_eq_true', Bool.not_eq_false', decide_eq_true_eq, decide_eq_false_iff_not, Bool.not_eq_true, Bool.not_eq_false, Decidable.not_not] at h)) | refine And.intro (by first | omega | exact rfl | assumption | exact ⟨rfl, rfl, rfl, rfl, rfl⟩ | exact ⟨rfl, rfl, rfl, rfl⟩ | exact ⟨rfl, by omega⟩ | exact oneAll_of rfl | exact ⟨rfl, oneAll_of rfl⟩ | exact Ref.refl _ | exact Thin.ref (.skip (Thin.refl _)) | exact Thin.ref (.skip (.skip (Thin.refl _))) | exact ⟨rfl, Nat.le_of_ble_eq_true rfl⟩ | ((try unfold maxLen); (try simp only [List.length_nil, List.length_cons, List.length_append]); omega) | (refine ⟨rfl, ?_⟩; (try simp only [List.length_nil, List.length_cons, List.length_append]); omega)) ?_ | intro _)); (all_goals (conv => whnf))
    refine ⟨⟨[packE 90 (fps (fX b b4 bt bk N (acc ++ rep k T) ())) (fX b b4 bt bk N (acc ++ rep k T)), packE 77 fpx (fS b S)], ?_, rfl, _, _, rfl⟩⟩
    exact (Ref.perm ((List.perm_append_comm (l₁ := [_, _, _]) (l₂ := [_])).trans (.cons _ (List.perm_append_comm (l₁ := [_]) (l₂ := [_, _]))))).trans (Ref.packs (f := fX b b4 bt bk N (acc ++ rep k T)) () (Thin.refl _))

/-! ### Extract -/

section
attribute [local semireducible] CallK
theorem callPre {P : Program} {w0 : World} {fp0 : List Nat} {L L' : List Ent} {f : FuncId} {args : List Value} {k : SV → List Ent → Prop} (href : Ref w0 fp0 L L') (h : CallK P w0 fp0 f args L' k) : CallK P w0 fp0 f args L k := fun w hR => h w (href w hR)
end

def extQ (key b : Nat) (S : Sto) (T : List Nat) (v : Value) (L1 : List Ent) : Prop :=
  ∃ a c fp', v = .tuple #[.slice a T.length c, .nilIface] ∧ L1 = [packE key fp' (fS b S), .own 806 a T.length c ty_uint8 1 (byC T)]
theorem calls_Extract (b : Nat) (S : Sto) (hw : WF S) (n : Int) (i m : Nat) (hk : known S n) (hi : i + m ≤ (tm S.E n).len) (hm : m ≤ 65536) (key : Nat) (fp : List Nat) (w : World) (hR : StR w key fp b S) :
    Calls Try.prog fn_access_Extract #[pS b, .int .i64 n, .int .i64 i, .int .i64 m] w fun e w' => ∃ v L1, e = .returned v ∧ R w fp L1 w' ∧ extQ key b S (sub (tm S.E n).txt i m) v L1 := by
  refine part_call [.v (pS b), .v (.int .i64 n), .v (.int .i64 i), .v (.int .i64 m)] ok_access_Extract (by simp) (hR.key 77) ?_
  have hsm := hw.small
  have hlen := hw.le hk.2
  have c0 := calls_SWeight b S n hsm
  rw [wtRes_ok hk] at c0
  have c1 := calls_lRange i m (tm S.E n).txt.length hlen
  unfold rangeRes at c1
  unfold Tm.len at hi
  rw [if_pos ⟨by omega, by omega, by omega, by omega⟩] at c1
  have hsl : (sub (tm S.E n).txt i m).length = m := sub_length hi
  have c3 := fun b4 bt bk => calls_parts b S hw n i m hk hi fn_access_Extract_1 [.pointer (some ⟨bt, 0, none⟩), .pointer (some ⟨b4, 0, none⟩)] (fX b b4 bt bk m) m (Nat.le_refl m) rfl (visX b S hw b4 bt bk m hm)
  generalize hT : sub (tm S.E n).txt i m = T at *
  (repeat' ((conv => whnf); first | refine ⟨.v _, ⟨rfl, trivial⟩, ?_⟩ | (refine CallK_pack (key := 77) rfl (fun w hR h0 => c0 _ _ _ h0) ?_; rintro _ _ ⟨rfl, fp', rfl⟩; refine ⟨.v _, rfl, ?_⟩) | (first | refine CallK_pure (.v _) (fun w hR => c1 w) ?_ | refine QCall_pure (.v _) (fun w hR => c1 w) ?_) | (refine bcase_prop (fun h => ?_) (fun h => ?_) <;> try (exfalso; omega)) | (refine bcase_nprop (fun h => ?_) (fun h => ?_) <;> try (exfalso; omega)) | (refine bcase_intro (fun h => ?_) (fun h => ?_) <;> (try simp only [Bool.not_eq_true', Bool.not_eq_false', decide_eq_true_eq, decide_eq_false_iff_not, Bool.not_eq_true, Bool.not_eq_false, Decidable.not_not] at h)) | refine And.intro (by first | omega | exact rfl | assumption | exact ⟨rfl, rfl, rfl, rfl, rfl⟩ | exact ⟨rfl, rfl, rfl, rfl⟩ | exact ⟨rfl, by omega⟩ | exact oneAll_of rfl | exact ⟨rfl, oneAll_of rfl⟩ | exact Ref.refl _ | exact Thin.ref (.skip (Thin.refl _)) | exact Thin.ref (.skip (.skip (Thin.refl _))) | exact ⟨by omega, by omega, by omega, by unfold maxLen; omega⟩ | exact ⟨rfl, Nat.le_of_ble_eq_true rfl⟩ | ((try unfold maxLen); (try simp only [List.length_nil, List.length_cons, List.length_append]); omega) | (refine ⟨rfl, ?_⟩; (try simp only [List.length_nil, List.length_cons, List.length_append]); omega)) ?_ | intro _)); (all_goals (conv => whnf))
  refine callPre ((Thin.ref (.keep rfl (fun _ h => h) (.keep rfl (fun _ h => h) (.skip (.keep rfl (fun _ h => h) (.keep rfl (fun _ h => h) (.nil _)))))) : Ref _ _ _ [.box 13 _ [.slice (some ⟨_, 0, none⟩) 0 m] ty_Sl_uint8, .own 35 (some ⟨_, 0, none⟩) 0 m ty_uint8 1 [], packE 77 fp' (fS b S), .box 4 _ [pS b] ty_P_intern_Store]).trans (Ref.perm (List.perm_append_comm (l₁ := [_, _, _]) (l₂ := [_])))) ?_
  refine callPre (Ref.packs (key := 90) (f := fX b _ _ _ m []) () (Thin.refl _)) ?_
  refine CallK_post ?_
  refine CallK_pack2 (key1 := 90) (key2 := 77) rfl rfl (fun w hR h0 => c3 _ _ _ _ _ _ h0) ?_
  rintro _ _ ⟨rfl, fp1', fp2', rfl⟩
  refine ⟨.v _, rfl, _, Ref.unpackU', ?_⟩
  (repeat' ((conv => whnf); first | refine ⟨.v _, ⟨rfl, trivial⟩, ?_⟩ | (refine bcase_prop (fun h => ?_) (fun h => ?_) <;> try (exfalso; omega)) | (refine bcase_nprop (fun h => ?_) (fun h => ?_) <;> try (exfalso; omega)) | (refine bcase_intro (fun h => ?_) (fun h => ?_) <;> (try simp only [Bool.not_eq_true', Bool.not_eq_false', decide_eq_true_eq, decide_eq_false_iff_not, Bool.not_eq_true, Bool.not_eq_false, Decidable.not_not] at h)) | refine And.intro (by first | omega | exact rfl | assumption | exact ⟨rfl, rfl, rfl, rfl, rfl⟩ | exact ⟨rfl, rfl, rfl, rfl⟩ | exact ⟨rfl, by omega⟩ | exact oneAll_of rfl | exact ⟨rfl, oneAll_of rfl⟩ | exact Ref.refl _ | exact Thin.ref (.skip (Thin.refl _)) | exact Thin.ref (.skip (.skip (Thin.refl _))) | exact ⟨rfl, Nat.le_of_ble_eq_true rfl⟩ | ((try unfold maxLen); (try simp only [List.length_nil, List.length_cons, List.length_append]); omega) | (refine ⟨rfl, ?_⟩; (try simp only [List.length_nil, List.length_cons, List.length_append]); omega)) ?_ | intro _)); (all_goals (conv => whnf))
  exact ⟨⟨_, (refPick 77 rfl).trans (Thin.ref (Thin.packE (.skip (.skip (.own rfl rfl (.nil _)))))), _, m, fp2', rfl, rfl⟩⟩
end Go.Proofs.Ytohlphngnhcbfaa
/- The text of a rule, by the reference. -/
namespace Go.Proofs.Ytohlphngnhcbfaa
open Go.EG
attribute [local irreducible] CallK QCall Go.Calls
set_option linter.unusedSimpArgs false
set_option linter.unusedVariables false
set_option maxRecDepth 20000
set_option maxHeartbeats 4000000

theorem In.take {w0 : World} {fp0 : List Nat} {a : Option Addr} {xs : List Value} (h : In w0 fp0 a xs) (n : Nat) : In w0 fp0 a (xs.take n) := by
  rcases h with rfl | ⟨b, off, rfl, h1, h2, h3⟩
  · exact .inl (by simp)
  · refine .inr ⟨b, off, rfl, h1, h2, fun j v hv => h3 j v ?_⟩
    rw [List.getElem?_take] at hv
    split at hv
    · exact hv
    · cases hv
/-! ### derive -/

/-! ### Refs, Expand, Text -/

end Go.Proofs.Ytohlphngnhcbfaa
/- The statements of chapters 16 and 19 that need no plain text: the program. -/
namespace Go.Proofs.Ytohlphngnhcbfaa
open Go.EG
attribute [local irreducible] CallK QCall Go.Calls
set_option linter.unusedSimpArgs false
set_option linter.unusedVariables false
set_option maxRecDepth 20000
set_option maxHeartbeats 4000000

/-- A number, read as one without a sign, modulo another. -/
def uMod (x : Int) (L : Nat) : Nat := (x % 18446744073709551616 % ((L : Int) + 1)).toNat
theorem uMod_le (x : Int) (L : Nat) : uMod x L ≤ L := by
  unfold uMod
  have h1 := Int.emod_lt_of_pos (x % 18446744073709551616) (show (0 : Int) < (L : Int) + 1 by omega)
  omega
theorem uMod_eq (x : Int) {L : Nat} (h : L ≤ LM) : x % 18446744073709551616 % (((L : Int) + 1) % 18446744073709551616) = (uMod x L : Nat) := by
  unfold uMod LM at *
  have h0 := Int.emod_nonneg (x % 18446744073709551616) (show ((L : Int) + 1) ≠ 0 by omega)
  have e : ((L : Int) + 1) % 18446744073709551616 = (L : Int) + 1 := by omega
  rw [e]; omega
end Go.Proofs.Ytohlphngnhcbfaa
/- Lines, positions, ranges: the references. -/
namespace Go.Proofs.Ytohlphngnhcbfaa
open Go.EG
attribute [local irreducible] CallK QCall Go.Calls
set_option linter.unusedSimpArgs false
set_option linter.unusedVariables false
set_option maxRecDepth 20000
set_option maxHeartbeats 4000000

/-! ### Plain -/

/-- A range of a row, read. -/
theorem In.off {w0 : World} {fp0 : List Nat} {a : Option Addr} {xs : List Value} (h : In w0 fp0 a xs) {c i : Nat} (n : Nat) (hc : xs.length ≤ c) : In w0 fp0 (offA a c i 1) ((xs.drop i).take n) := by
  by_cases hi : i < xs.length
  · rcases h with rfl | ⟨b, off, rfl, h1, h2, h3⟩
    · simp at hi
    · refine .inr ⟨b, off + i, ?_, h1, h2, fun j v hv => ?_⟩
      · unfold offA
        rw [if_neg (by omega), Nat.mul_one]
        simp [Addr.add]
        try omega
      · rw [Nat.add_assoc]
        refine h3 _ v ?_
        rw [List.getElem?_take] at hv
        split at hv
        · simpa using hv
        · cases hv
  · exact .inl (by rw [List.drop_eq_nil_of_le (by omega)]; simp)

/-! ### Walks -/

end Go.Proofs.Ytohlphngnhcbfaa
/- The fixed example of chapter 16; lists and texts that are compared; the way to a letter, by the reference. -/
namespace Go.Proofs.Ytohlphngnhcbfaa
open Go.EG
attribute [local irreducible] CallK QCall Go.Calls
set_option linter.unusedSimpArgs false
set_option linter.unusedVariables false
set_option maxRecDepth 20000
set_option maxHeartbeats 4000000

/-- The cells of a row of one's own, read. -/
theorem rdsR {w0 : World} {fp0 : List Nat} {L : List Ent} (key : Nat) {a : Option Addr} {n c T sz m : Nat} {xs : List Value} (h : ownAt key L = some ⟨a, n, c, T, sz, xs⟩) (hm : m = xs.length) : RdS w0 fp0 L a m xs := by
  refine ⟨hm, ?_⟩
  by_cases hx : xs = []
  · exact .inl hx
  · refine .inr fun w hR => ?_
    obtain ⟨v0, hv0⟩ : ∃ v, xs[0]? = some v := ⟨xs[0]'(List.length_pos_iff.2 hx), by simp⟩
    obtain ⟨g, ha, _⟩ := cell_own hR h hv0
    refine ⟨g, 0, ha, fun j v hv => ?_⟩
    obtain ⟨g', ha', hc⟩ := cell_own hR h hv
    rw [ha] at ha'
    simp only [Option.some.injEq, Addr.mk.injEq, and_true] at ha'
    subst ha'
    rw [Nat.zero_add]; exact hc

theorem calls_IDs (P : List Int) (a a' : Option Addr) (c c' : Nat) (hl : P.length ≤ 2000000) (w : World) (h1 : In w [] a (ints .i64 P)) (h2 : In w [] a' (ints .i64 P)) :
    Calls Try.prog fn_evergreenbase_IDs #[.slice a P.length c, .slice a' P.length c'] w fun e w' => e = .returned (.bool true) ∧ Ext w w' := by
  refine pure_call [.v (.slice a P.length c), .v (.slice a' P.length c')] w ok_evergreenbase_IDs (by simp) ?_
  (repeat' ((conv => whnf); first | (refine bcase_prop (fun h => ?_) (fun h => ?_) <;> try (exfalso; omega)) | (refine bcase_nprop (fun h => ?_) (fun h => ?_) <;> try (exfalso; omega)) | (refine bcase_intro (fun h => ?_) (fun h => ?_) <;> (try simp only [Bool.not_eq_true', Bool.not_eq_false', decide_eq_true_eq, decide_eq_false_iff_not, Bool.not_eq_true, Bool.not_eq_false, Decidable.not_not] at h)) | refine And.intro (by first | omega | exact rfl | assumption | exact ⟨rfl, rfl, rfl, rfl, rfl⟩ | exact ⟨rfl, rfl, rfl, rfl⟩ | exact ⟨rfl, by omega⟩ | exact oneAll_of rfl | exact ⟨rfl, oneAll_of rfl⟩ | exact Ref.refl _ | exact Thin.ref (.skip (Thin.refl _)) | exact Thin.ref (.skip (.skip (Thin.refl _))) | exact ⟨rfl, Nat.le_of_ble_eq_true rfl⟩ | ((try unfold maxLen); (try simp only [List.length_nil, List.length_cons, List.length_append]); omega) | (refine ⟨rfl, ?_⟩; (try simp only [List.length_nil, List.length_cons, List.length_append]); omega)) ?_ | intro _)); (all_goals (conv => whnf))
  all_goals first | (exfalso; omega) | skip
  refine VC_loop Nat (fun i => [(0, .v (.slice a P.length c)), (1, .v (.slice a' P.length c')), (5, .v (.int .i64 i))]) (fun _ => []) (fun i => i ≤ P.length) (fun i => P.length - i) 0 (Nat.zero_le _) (by (repeat ((conv => whnf); refine And.intro (by first | exact rfl | exact vint_eq (by omega) | exact vint_eq (by (dsimp only; omega)) | exact vsl_eq (by omega) | exact vsl_eq (by first | (dsimp only; omega) | (simp; done) | (simp; omega))) ?_)); exact trivial) (Ref.refl _) ?_
  intro i hi
  by_cases hlt : i < P.length
  · have r1 := fun {L : List Ent} => rdI (L := L) h1 hlt
    have r2 := fun {L : List Ent} => rdI (L := L) h2 hlt
    have n1 : a ≠ none := neI h1 (by omega)
    have n2 : a' ≠ none := neI h2 (by omega)
    generalize P.getD i 0 = x at *
    (repeat' ((conv => whnf); first | rw [Int.toNat_natCast] | rw [Nat.mul_one] | refine ⟨_, r1, ?_⟩ | refine ⟨_, r2, ?_⟩ | (refine bcase_prop (fun h => ?_) (fun h => ?_) <;> try (exfalso; omega)) | (refine bcase_nprop (fun h => ?_) (fun h => ?_) <;> try (exfalso; omega)) | (refine bcase_intro (fun h => ?_) (fun h => ?_) <;> (try simp only [Bool.not_eq_true', Bool.not_eq_false', decide_eq_true_eq, decide_eq_false_iff_not, Bool.not_eq_true, Bool.not_eq_false, Decidable.not_not] at h)) | refine And.intro (by first | omega | exact rfl | assumption | exact ⟨rfl, rfl, rfl, rfl, rfl⟩ | exact ⟨rfl, rfl, rfl, rfl⟩ | exact ⟨rfl, by omega⟩ | exact oneAll_of rfl | exact ⟨rfl, oneAll_of rfl⟩ | exact Ref.refl _ | exact Thin.ref (.skip (Thin.refl _)) | exact Thin.ref (.skip (.skip (Thin.refl _))) | exact n1 | exact n2 | exact ⟨rfl, Nat.le_of_ble_eq_true rfl⟩ | ((try unfold maxLen); (try simp only [List.length_nil, List.length_cons, List.length_append]); omega) | (refine ⟨rfl, ?_⟩; (try simp only [List.length_nil, List.length_cons, List.length_append]); omega)) ?_ | intro _)); (all_goals (conv => whnf))
    all_goals first | (exfalso; omega) | skip
    exact loop_next (i + 1) hlt (by ((try dsimp only); omega)) (by (repeat ((conv => whnf); refine And.intro (by first | exact rfl | exact vint_eq (by omega) | exact vint_eq (by (dsimp only; omega)) | exact vsl_eq (by omega) | exact vsl_eq (by first | (dsimp only; omega) | (simp; done) | (simp; omega))) ?_)); exact trivial) (Ref.refl _)
  · (repeat' ((conv => whnf); first | (refine bcase_prop (fun h => ?_) (fun h => ?_) <;> try (exfalso; omega)) | (refine bcase_nprop (fun h => ?_) (fun h => ?_) <;> try (exfalso; omega)) | (refine bcase_intro (fun h => ?_) (fun h => ?_) <;> (try simp only [Bool.not_eq_true', Bool.not_eq_false', decide_eq_true_eq, decide_eq_false_iff_not, Bool.not_eq_true, Bool.not_eq_false, Decidable.not_not] at h)) | refine And.intro (by first | omega | exact rfl | assumption | exact ⟨rfl, rfl, rfl, rfl, rfl⟩ | exact ⟨rfl, rfl, rfl, rfl⟩ | exact ⟨rfl, by omega⟩ | exact oneAll_of rfl | exact ⟨rfl, oneAll_of rfl⟩ | exact Ref.refl _ | exact Thin.ref (.skip (Thin.refl _)) | exact Thin.ref (.skip (.skip (Thin.refl _))) | exact ⟨rfl, Nat.le_of_ble_eq_true rfl⟩ | ((try unfold maxLen); (try simp only [List.length_nil, List.length_cons, List.length_append]); omega) | (refine ⟨rfl, ?_⟩; (try simp only [List.length_nil, List.length_cons, List.length_append]); omega)) ?_ | intro _)); (all_goals (conv => whnf))
    all_goals first | (exfalso; omega) | exact ⟨rfl⟩

/-! ### The example -/

def gX : List Rul := [⟨1, 97, 0, 0, 0⟩, ⟨1, 98, 0, 0, 0⟩, ⟨2, 0, 1, 2, 0⟩, ⟨3, 0, 3, 0, 3⟩, ⟨2, 0, 4, 1, 0⟩]
def eX : List Entr := [⟨⟨1, 97, 0, 0, 0⟩, .lt 97⟩, ⟨⟨1, 98, 0, 0, 0⟩, .lt 98⟩, ⟨⟨2, 0, 1, 2, 0⟩, .pr (.lt 97) (.lt 98)⟩, ⟨⟨3, 0, 3, 0, 3⟩, .pw (.pr (.lt 97) (.lt 98)) 3⟩, ⟨⟨2, 0, 4, 1, 0⟩, .pr (.pw (.pr (.lt 97) (.lt 98)) 3) (.lt 97)⟩]
theorem gX_chk : chk 1 gX = 0 := by decide
theorem gX_rul : ∀ i, i < gX.length → okR (gX.getD i rul0) (i + 1) := fun i hi => by
  have := (chk_zero.1 gX_chk) i hi
  rwa [show (1 : Int) + (i : Int) = i + 1 by omega] at this
theorem gX_let : ∀ i, i < gX.length → 0 ≤ (gX.getD i rul0).l ∧ (gX.getD i rul0).l < 256 := by decide
theorem gX_gram : Gram gX := ⟨gX_rul, gX_let, by decide⟩
theorem gX_imp : stImp ⟨10, []⟩ [0] gX = some (⟨10, eX⟩, [0, 1, 2, 3, 4, 5]) := by rfl
theorem gX_wf : WF ⟨10, eX⟩ := by
  obtain ⟨S, to, h1, h2, _⟩ := stImp_ok (g := gX) (WF.new 10 (by decide)) (Rel.start _) (fun i hi => by
    have := gX_rul i hi
    rwa [show (([] : List Tm).length : Int) + 1 + (i : Int) = i + 1 by simp; omega]) gX_let (by decide) (by decide)
  rw [gX_imp] at h1
  simp only [Option.some.injEq, Prod.mk.injEq] at h1
  rw [h1.1]; exact h2
theorem gX_path : pathL eX 5 5 = [5, 4, 3, 2] := by
  rw [pathL, if_neg (by decide), if_neg (by decide), if_pos (by decide), dif_pos (by decide)]
  rw [pathL, if_neg (by decide), if_pos (by decide), dif_pos (by decide)]
  rw [pathL, if_neg (by decide), if_neg (by decide), if_neg (by decide), dif_pos (by decide)]
  rw [pathL, if_pos (by decide)]
  rfl
theorem gX_sub : sub (tm eX 5).txt 2 3 = [97, 98, 97] := by decide
theorem calls_awake16 (w : World) : Calls Try.prog fn_evergreenlaw16_awake #[] w fun e w' => e = .returned (.bool true) ∧ Ext w w' := by
  refine pure_call [] w ok_evergreenlaw16_awake (by simp) ?_
  have c1 := fun w => calls_New 10 77 w
  rw [show clipS 10 = 10 from rfl] at c1
  have c2 := fun b key fp w hR a c hin => calls_Import b ⟨10, []⟩ (WF.new 10 (by decide)) gX gX_gram ⟨10, eX⟩ _ gX_imp (by decide) a c key fp w hR hin
  have hl : gX.length = 5 := rfl
  rw [hl, show ([0, 1, 2, 3, 4, 5] : List Int).getD 5 0 = 5 from rfl] at c2
  have hk : known ⟨10, eX⟩ 5 := by decide
  have c3 := fun b key fp w h => calls_Extract b ⟨10, eX⟩ gX_wf 5 2 3 hk (by decide) (by decide) key fp w h
  have c4 := fun b key fp w h => calls_Path b ⟨10, eX⟩ gX_wf 5 5 hk (by decide) (by decide) key fp w h
  rw [gX_sub] at c3
  rw [show (5 : Int).toNat = 5 from rfl, gX_path] at c4
  have c5 := fun a a' c c' w h h' => calls_IDs [5, 4, 3, 2] a a' c c' (by decide) w h h'
  (repeat' ((conv => whnf); first | (refine CallK_new (fun w hR => c1 w) ?_; rintro _ _ ⟨bn, fpn, rfl, rfl⟩; refine ⟨.v _, rfl, ?_⟩) | (refine CallK_pack (key := 77) rfl (fun w hR h0 => c2 _ _ _ _ h0 _ _ (In.beside (key := 18) hR rfl)) ?_; rintro _ _ ⟨rfl, fp', rfl⟩; refine ⟨.v _, rfl, ?_⟩) | (refine CallK_pack (key := 77) rfl (fun w hR h0 => c3 _ _ _ _ h0) ?_; rintro _ _ ⟨a6, k6, fp', rfl, rfl⟩; refine ⟨.v _, rfl, ?_⟩) | (refine CallK_pack (key := 77) rfl (fun w hR h0 => c4 _ _ _ _ h0) ?_; rintro _ _ ⟨a5, k5, fp', rfl, rfl⟩; refine ⟨.v _, rfl, ?_⟩) | refine ⟨_, rdsR 806 rfl rfl, ?_⟩ | refine ⟨[97, 98, 97], rfl, ?_⟩ | (refine CallK_pure (.v _) (fun w' hR => c5 _ _ _ _ w' (In.ownR (key := 805) hR rfl) (In.ownR (key := 51) hR rfl)) ?_) | (refine bcase_prop (fun h => ?_) (fun h => ?_) <;> try (exfalso; omega)) | (refine bcase_nprop (fun h => ?_) (fun h => ?_) <;> try (exfalso; omega)) | (refine bcase_intro (fun h => ?_) (fun h => ?_) <;> (try simp only [Bool.not_eq_true', Bool.not_eq_false', decide_eq_true_eq, decide_eq_false_iff_not, Bool.not_eq_true, Bool.not_eq_false, Decidable.not_not] at h)) | refine And.intro (by first | omega | exact rfl | assumption | exact ⟨rfl, rfl, rfl, rfl, rfl⟩ | exact ⟨rfl, rfl, rfl, rfl⟩ | exact ⟨rfl, by omega⟩ | exact oneAll_of rfl | exact ⟨rfl, oneAll_of rfl⟩ | exact Ref.refl _ | exact Thin.ref (.skip (Thin.refl _)) | exact Thin.ref (.skip (.skip (Thin.refl _))) | exact ⟨rfl, Nat.le_of_ble_eq_true rfl⟩ | ((try unfold maxLen); (try simp only [List.length_nil, List.length_cons, List.length_append]); omega) | (refine ⟨rfl, ?_⟩; (try simp only [List.length_nil, List.length_cons, List.length_append]); omega)) ?_ | intro _)); (all_goals (conv => whnf))
  all_goals exact ⟨rfl⟩
end Go.Proofs.Ytohlphngnhcbfaa
/- Ranges that lie inside: the program. -/
namespace Go.Proofs.Ytohlphngnhcbfaa
open Go.EG
attribute [local irreducible] CallK QCall Go.Calls
set_option linter.unusedSimpArgs false
set_option linter.unusedVariables false
set_option maxRecDepth 20000
set_option maxHeartbeats 4000000

theorem calls_inside (L : Nat) (hL : L ≤ LM) (f n : Int) (w : World) : Calls Try.prog fn_evergreenlaw16_inside #[.int .i64 L, .int .i64 f, .int .i64 n] w fun e w' => e = .returned (.tuple #[.int .i64 (uMod f L), .int .i64 (uMod n (L - uMod f L))]) ∧ Ext w w' := by
  refine pure_call [.v (.int .i64 L), .v (.int .i64 f), .v (.int .i64 n)] w ok_evergreenlaw16_inside (by simp) ?_
  have q1 := uMod_eq f hL
  have l1 := uMod_le f L
  have q2 := uMod_eq n (L := L - uMod f L) (by omega)
  have l2 := uMod_le n (L - uMod f L)
  have hL' : L ≤ 1152921504606846976 := hL
  generalize uMod n (L - uMod f L) = v at *
  generalize uMod f L = u at *
  have hs : (L : Int) - (u : Int) = ((L - u : Nat) : Int) := by omega
  (repeat' ((conv => whnf); first | rw [q1] | rw [hs] | rw [q2] | (refine bcase_prop (fun h => ?_) (fun h => ?_) <;> try (exfalso; omega)) | (refine bcase_nprop (fun h => ?_) (fun h => ?_) <;> try (exfalso; omega)) | (refine bcase_intro (fun h => ?_) (fun h => ?_) <;> (try simp only [Bool.not_eq_true', Bool.not_eq_false', decide_eq_true_eq, decide_eq_false_iff_not, Bool.not_eq_true, Bool.not_eq_false, Decidable.not_not] at h)) | refine And.intro (by first | omega | exact rfl | assumption | exact ⟨rfl, rfl, rfl, rfl, rfl⟩ | exact ⟨rfl, rfl, rfl, rfl⟩ | exact ⟨rfl, by omega⟩ | exact oneAll_of rfl | exact ⟨rfl, oneAll_of rfl⟩ | exact Ref.refl _ | exact Thin.ref (.skip (Thin.refl _)) | exact Thin.ref (.skip (.skip (Thin.refl _))) | exact ⟨rfl, Nat.le_of_ble_eq_true rfl⟩ | ((try unfold maxLen); (try simp only [List.length_nil, List.length_cons, List.length_append]); omega) | (refine ⟨rfl, ?_⟩; (try simp only [List.length_nil, List.length_cons, List.length_append]); omega)) ?_ | intro _)); (all_goals (conv => whnf))
  exact ⟨rfl⟩
end Go.Proofs.Ytohlphngnhcbfaa
/- Letters of texts: the program. -/
namespace Go.Proofs.Ytohlphngnhcbfaa
open Go.EG
attribute [local irreducible] CallK QCall Go.Calls
set_option linter.unusedSimpArgs false
set_option linter.unusedVariables false
set_option maxRecDepth 20000
set_option maxHeartbeats 4000000

/-- Letters are bytes. -/
theorem rep_mem {t : List Nat} {k x : Nat} (h : x ∈ rep k t) : x ∈ t := by
  unfold rep at h
  obtain ⟨l, hl, hx⟩ := List.mem_flatten.1 h
  rw [(List.mem_replicate.1 hl).2] at hx
  exact hx
theorem WF.bytes {S : Sto} (hw : WF S) : ∀ (f : Nat) (n : Int), n.toNat ≤ f → n ≤ S.E.length → ∀ x ∈ (tm S.E n).txt, x < 256
  | 0, n, hf, hn, x, hx => by
    have h0 : n ≤ 0 := by omega
    rw [tm, atE, if_pos h0] at hx
    simp [ent0, Tm.txt] at hx
  | f + 1, n, hf, hn, x, hx => by
    by_cases h1 : 1 ≤ n
    case neg =>
      have h0 : n ≤ 0 := by omega
      rw [tm, atE, if_pos h0] at hx
      simp [ent0, Tm.txt] at hx
    rcases hw.below h1 hn with ⟨q1, ht⟩ | ⟨q1, ht, a1, a2, b1, b2⟩ | ⟨q1, ht, a1, a2, t2⟩
    · rw [ht] at hx
      have := (hw.at_ h1 hn).2.1
      simp only [Tm.txt, List.mem_singleton] at hx
      omega
    · rw [ht] at hx
      simp only [Tm.txt, List.mem_append] at hx
      rcases hx with hx | hx
      · exact WF.bytes hw f _ (by omega) (by omega) x hx
      · exact WF.bytes hw f _ (by omega) (by omega) x hx
    · rw [ht] at hx
      simp only [Tm.txt] at hx
      exact WF.bytes hw f _ (by omega) (by omega) x (rep_mem hx)
theorem sub_mem {t : List Nat} {i m x : Nat} (h : x ∈ sub t i m) : x ∈ t := List.mem_of_mem_drop (List.mem_of_mem_take h)
end Go.Proofs.Ytohlphngnhcbfaa
/- What a rule reaches, and the grammar that is handed out. Plain Lean: no program in sight. -/
namespace Go.Proofs.Ytohlphngnhcbfaa
open Go.EG
set_option linter.unusedSimpArgs false
set_option linter.unusedVariables false

/-- What is reached from id: increasing, closed, nothing else. -/
structure Rch (S : Sto) (id : Int) (L : List Int) : Prop where
  asc : L.Pairwise (· < ·)
  pos : ∀ x ∈ L, 1 ≤ x ∧ x ≤ id
  cls : ∀ x ∈ L, ∀ y ∈ refsL (atE S.E x).r, y ∈ L
  top : id ≠ 0 → id ∈ L
  rea : ∀ x ∈ L, x ≠ id → ∃ z ∈ L, x ∈ refsL (atE S.E z).r

/-- The new number of an ID. -/
def posn (L : List Int) (x : Int) : Int := if x ∈ L then (L.idxOf x : Int) + 1 else 0
def ren (L : List Int) (r : Rul) : Rul := { r with a := posn L r.a, b := posn L r.b }
/-- The grammar that is handed out. -/
def xg (S : Sto) (L : List Int) : List Rul := L.map fun x => ren L (atE S.E x).r
theorem xg_length (S : Sto) (L : List Int) : (xg S L).length = L.length := by simp [xg]

theorem asc_get {L : List Int} (h : L.Pairwise (· < ·)) {i j : Nat} (hij : i < j) (hj : j < L.length) : L.getD i 0 < L.getD j 0 := by
  rw [List.pairwise_iff_getElem] at h
  have := h i j (by omega) hj hij
  simpa [List.getD_eq_getElem?_getD, List.getElem?_eq_getElem (show i < L.length by omega), List.getElem?_eq_getElem hj] using this
theorem getD_mem {L : List Int} {i : Nat} (hi : i < L.length) : L.getD i 0 ∈ L := by
  rw [List.getD_eq_getElem?_getD, List.getElem?_eq_getElem hi]
  exact List.getElem_mem hi
theorem idxOf_getD {L : List Int} {x : Int} (h : x ∈ L) : L.idxOf x < L.length ∧ L.getD (L.idxOf x) 0 = x := by
  have hl := List.idxOf_lt_length_of_mem h
  refine ⟨hl, ?_⟩
  rw [List.getD_eq_getElem?_getD, List.getElem?_eq_getElem hl]
  simp
theorem asc_idx {L : List Int} (h : L.Pairwise (· < ·)) {i : Nat} {x : Int} (hi : i < L.length) (hx : x ∈ L) (hlt : x < L.getD i 0) : L.idxOf x < i := by
  obtain ⟨h1, h2⟩ := idxOf_getD hx
  refine Decidable.byContradiction fun hc => ?_
  by_cases he : L.idxOf x = i
  · rw [he] at h2; omega
  · have := asc_get h (show i < L.idxOf x by omega) h1
    omega
theorem posn_mem {L : List Int} {x : Int} (h : x ∈ L) : posn L x = (L.idxOf x : Int) + 1 := if_pos h
theorem posn_not {L : List Int} {x : Int} (h : x ∉ L) : posn L x = 0 := if_neg h

theorem refs_two {r : Rul} (h : r.k = 2) : refsL r = [r.a, r.b] := if_pos h
theorem refs_one {r : Rul} (h : r.k = 3) : refsL r = [r.a] := by rw [refsL, if_neg (by omega), if_pos h]

theorem WF.okAt {S : Sto} (hw : WF S) {x : Int} (h1 : 1 ≤ x) (h2 : x ≤ S.E.length) : okR (atE S.E x).r x := by
  have := hw.rul (x.toNat - 1) (by omega)
  unfold atE
  rw [if_neg (by omega)]
  rw [show ((x.toNat - 1 : Nat) : Int) + 1 = x by omega] at this
  exact this
theorem WF.letAt {S : Sto} (hw : WF S) {x : Int} (h1 : 1 ≤ x) (h2 : x ≤ S.E.length) : 0 ≤ (atE S.E x).r.l ∧ (atE S.E x).r.l < 256 := by
  have := hw.let_ (x.toNat - 1) (by omega)
  unfold atE
  rw [if_neg (by omega)]
  exact this
theorem WF.tmAt {S : Sto} (hw : WF S) {x : Int} (h1 : 1 ≤ x) (h2 : x ≤ S.E.length) : tm S.E x = mkT S.E (atE S.E x).r := by
  have := hw.tms (x.toNat - 1) (by omega)
  unfold tm atE
  rw [if_neg (by omega)]
  exact this

theorem gTs_snoc : ∀ {g : List Rul} {ms : List Tm} {r : Rul}, gTs ms (g ++ [r]) = gTs ms g ++ [gT (gTs ms g) r]
  | [], ms, r => rfl
  | s :: g, ms, r => by rw [List.cons_append, gTs, gTs_snoc, gTs]
theorem take_snoc {α : Type} {L : List α} {i : Nat} {d : α} (h : i < L.length) : L.take (i + 1) = L.take i ++ [L.getD i d] := by
  rw [List.take_add_one, List.getElem?_eq_getElem h, List.getD_eq_getElem?_getD, List.getElem?_eq_getElem h]
  rfl
theorem getD_map {α β : Type} {L : List α} {f : α → β} {i : Nat} {d : α} {e : β} (h : i < L.length) : (L.map f).getD i e = f (L.getD i d) := by
  rw [List.getD_eq_getElem?_getD, List.getD_eq_getElem?_getD, List.getElem?_map, List.getElem?_eq_getElem h]
  rfl

/-- The term of a number of the grammar. -/
theorem Rch.term {S : Sto} (hw : WF S) {id : Int} {L : List Int} (h : Rch S id L) (hk : id ≤ S.E.length) {i : Nat} (hi : i < L.length) :
    gT ((L.take i).map (tm S.E)) (ren L (atE S.E (L.getD i 0)).r) = tm S.E (L.getD i 0) := by
  have hm := getD_mem hi
  obtain ⟨p1, p2⟩ := h.pos _ hm
  have ho := hw.okAt p1 (by omega)
  rw [hw.tmAt p1 (by omega)]
  have key : ∀ y, y ∈ refsL (atE S.E (L.getD i 0)).r → y < L.getD i 0 → mAt ((L.take i).map (tm S.E)) (posn L y) = tm S.E y := by
    intro y hy hlt
    have hyL := h.cls _ hm y hy
    have hx := asc_idx h.asc hi hyL hlt
    rw [posn_mem hyL]
    unfold mAt
    rw [if_neg (by omega), show ((L.idxOf y : Int) + 1).toNat - 1 = L.idxOf y by omega, getD_map (d := 0) (by rw [List.length_take]; omega), List.getD_eq_getElem?_getD, List.getElem?_take, if_pos hx, ← List.getD_eq_getElem?_getD, (idxOf_getD hyL).2]
  generalize (atE S.E (L.getD i 0)).r = r at *
  unfold gT mkT ren
  rcases ho with ⟨hk1, _⟩ | ⟨hk2, _, _, _, ha, _, hb⟩ | ⟨hk3, _, _, _, _, ha⟩
  · simp only [hk1, if_true]
  · simp only [hk2]
    rw [key r.a (by rw [refs_two hk2]; simp) ha, key r.b (by rw [refs_two hk2]; simp) hb]
  · simp only [hk3]
    rw [key r.a (by rw [refs_one hk3]; simp) ha, if_neg (by decide), if_neg (by decide), if_neg (by decide), if_neg (by decide)]
theorem Rch.terms {S : Sto} (hw : WF S) {id : Int} {L : List Int} (h : Rch S id L) (hk : id ≤ S.E.length) : ∀ i, i ≤ L.length → gTs [] ((xg S L).take i) = (L.take i).map (tm S.E)
  | 0, _ => by simp [gTs]
  | i + 1, hi => by
    rw [take_snoc (d := rul0) (by rw [xg_length]; omega), gTs_snoc, Rch.terms hw h hk i (by omega), take_snoc (d := 0) (by omega), List.map_append]
    congr 1
    rw [xg, getD_map (d := 0) (by omega), h.term hw hk (by omega)]
    rfl
/-- The grammar that is handed out derives what its IDs derive. -/
theorem Rch.gTs {S : Sto} (hw : WF S) {id : Int} {L : List Int} (h : Rch S id L) (hk : id ≤ S.E.length) : gTs [] (xg S L) = L.map (tm S.E) := by
  have := h.terms hw hk L.length (Nat.le_refl _)
  rwa [List.take_of_length_le (by rw [xg_length]; omega), List.take_of_length_le (Nat.le_refl _)] at this

/-- Its rules are in order. -/
theorem Rch.ok {S : Sto} (hw : WF S) {id : Int} {L : List Int} (h : Rch S id L) (hk : id ≤ S.E.length) {i : Nat} (hi : i < L.length) : okR ((xg S L).getD i rul0) (i + 1) := by
  have hm := getD_mem hi
  obtain ⟨p1, p2⟩ := h.pos _ hm
  have ho := hw.okAt p1 (by omega)
  have hn : (0 : Int) ∉ L := fun h0 => by have := (h.pos 0 h0).1; omega
  have key : ∀ y, y ∈ refsL (atE S.E (L.getD i 0)).r → y < L.getD i 0 → 1 ≤ posn L y ∧ posn L y < (i : Int) + 1 := by
    intro y hy hlt
    have hyL := h.cls _ hm y hy
    have hx := asc_idx h.asc hi hyL hlt
    rw [posn_mem hyL]
    omega
  rw [xg, getD_map (d := 0) hi]
  generalize (atE S.E (L.getD i 0)).r = r at *
  unfold okR ren
  rcases ho with ⟨hk1, e1, e2, e3, e4⟩ | ⟨hk2, e1, e2, _, ha, _, hb⟩ | ⟨hk3, e1, e2, e3, _, ha⟩
  · refine .inl ⟨hk1, ?_, ?_, e3, by omega⟩
    · show posn L r.a = 0; rw [e1]; exact posn_not hn
    · show posn L r.b = 0; rw [e2]; exact posn_not hn
  · have k1 := key r.a (by rw [refs_two hk2]; simp) ha
    have k2 := key r.b (by rw [refs_two hk2]; simp) hb
    exact .inr (.inl ⟨hk2, e1, e2, k1.1, k1.2, k2.1, k2.2⟩)
  · have k1 := key r.a (by rw [refs_one hk3]; simp) ha
    refine .inr (.inr ⟨hk3, e1, ?_, e3, k1.1, k1.2⟩)
    show posn L r.b = 0; rw [e2]; exact posn_not hn
theorem Rch.let_ {S : Sto} (hw : WF S) {id : Int} {L : List Int} (h : Rch S id L) (hk : id ≤ S.E.length) {i : Nat} (hi : i < L.length) : 0 ≤ ((xg S L).getD i rul0).l ∧ ((xg S L).getD i rul0).l < 256 := by
  obtain ⟨p1, p2⟩ := h.pos _ (getD_mem hi)
  rw [xg, getD_map (d := 0) hi]
  exact hw.letAt p1 (by omega)
/-- The last of the grammar is the ID. -/
theorem Rch.last {S : Sto} {id : Int} {L : List Int} (h : Rch S id L) (h0 : id ≠ 0) : 0 < L.length ∧ L.getD (L.length - 1) 0 = id := by
  have hm := h.top h0
  obtain ⟨h1, h2⟩ := idxOf_getD hm
  refine ⟨by omega, ?_⟩
  by_cases he : L.idxOf id = L.length - 1
  · rw [← he]; exact h2
  · have := asc_get h.asc (show L.idxOf id < L.length - 1 by omega) (by omega)
    have := (h.pos _ (getD_mem (show L.length - 1 < L.length by omega))).2
    omega
theorem Rch.len {S : Sto} {id : Int} {L : List Int} (h : Rch S id L) : (L.length : Int) ≤ id ∨ L = [] := by
  cases hL : L with
  | nil => exact .inr rfl
  | cons x t =>
    refine .inl ?_
    have : ∀ i, i < L.length → (i : Int) + 1 ≤ L.getD i 0 := by
      intro i
      induction i with
      | zero => intro hi; have := (h.pos _ (getD_mem hi)).1; omega
      | succ i ih =>
        intro hi
        have h1 := ih (by omega)
        have h2 := asc_get h.asc (show i < i + 1 by omega) hi
        omega
    have hl : 0 < L.length := by rw [hL]; simp
    have h1 := this (L.length - 1) (by omega)
    have h2 := (h.pos _ (getD_mem (show L.length - 1 < L.length by omega))).2
    rw [← hL]
    omega

theorem Rch.small {S : Sto} (hw : WF S) {id : Int} {L : List Int} (h : Rch S id L) (hk : known S id) : L.length ≤ 1048576 := by
  have := hw.small
  have := hk.2
  rcases h.len with h | h
  · omega
  · rw [h]; simp

/-! ### The way there: what is listed, what is seen -/

/-- The list so far: without repetition; the refs of those ahead of i are in it. -/
structure Bfs (S : Sto) (id : Int) (i : Nat) (L : List Int) : Prop where
  nod : L.Nodup
  pos : ∀ x ∈ L, 1 ≤ x ∧ x ≤ id
  cls : ∀ j, j < i → ∀ y ∈ refsL (atE S.E (L.getD j 0)).r, y ∈ L
  top : id ∈ L
  rea : ∀ x ∈ L, x ≠ id → ∃ z ∈ L, x ∈ refsL (atE S.E z).r
theorem Bfs.start {S : Sto} {id : Int} (h : 1 ≤ id) : Bfs S id 0 [id] :=
  ⟨by simp, fun x hx => by rw [List.mem_singleton] at hx; subst hx; omega, fun j hj => absurd hj (by omega), by simp, fun x hx hn => absurd (List.mem_singleton.1 hx) hn⟩
theorem nodup_len : ∀ {n : Nat} {L : List Int}, L.Nodup → (∀ x ∈ L, 1 ≤ x ∧ x ≤ n) → L.length ≤ n
  | 0, [], _, _ => Nat.le_refl _
  | 0, x :: t, _, h => absurd (h x (by simp)) (by omega)
  | n + 1, L, hn, h => by
    have h1 : (L.erase ((n : Int) + 1)).length ≤ n := nodup_len (hn.erase _) fun x hx => by
      have h2 := h x (List.mem_of_mem_erase hx)
      have h3 : x ≠ (n : Int) + 1 := fun he => by
        subst he
        exact absurd hx (List.Nodup.not_mem_erase hn)
      omega
    by_cases hm : ((n : Int) + 1) ∈ L
    · rw [List.length_erase_of_mem hm] at h1
      omega
    · rw [List.erase_of_not_mem hm] at h1
      omega
theorem Bfs.len {S : Sto} {id : Int} {i : Nat} {L : List Int} (h : Bfs S id i L) (h0 : 0 ≤ id) : L.length ≤ id.toNat :=
  nodup_len h.nod fun x hx => by have := h.pos x hx; omega
theorem Bfs.snoc {S : Sto} {id : Int} {i : Nat} {L : List Int} (h : Bfs S id i L) (hi : i ≤ L.length) {x z : Int} (hx : x ∉ L) (h1 : 1 ≤ x) (h2 : x ≤ id) (hz : z ∈ L) (hr : x ∈ refsL (atE S.E z).r) : Bfs S id i (L ++ [x]) := by
  refine ⟨?_, ?_, ?_, by simp [h.top], ?_⟩
  · rw [List.nodup_append]
    exact ⟨h.nod, by simp, fun a ha b hb => by rw [List.mem_singleton] at hb; subst hb; exact fun e => hx (e ▸ ha)⟩
  · intro y hy
    rcases List.mem_append.1 hy with hy | hy
    · exact h.pos y hy
    · rw [List.mem_singleton] at hy; subst hy; exact ⟨h1, h2⟩
  · intro j hj y hy
    rw [getD_append_left (by omega)] at hy
    exact List.mem_append_left _ (h.cls j hj y hy)
  · intro y hy hn
    rcases List.mem_append.1 hy with hy | hy
    · obtain ⟨w, hw, hwr⟩ := h.rea y hy hn
      exact ⟨w, List.mem_append_left _ hw, hwr⟩
    · rw [List.mem_singleton] at hy; subst hy
      exact ⟨z, List.mem_append_left _ hz, hr⟩
theorem Bfs.next {S : Sto} {id : Int} {i : Nat} {L : List Int} (h : Bfs S id i L) (hr : ∀ y ∈ refsL (atE S.E (L.getD i 0)).r, y ∈ L) : Bfs S id (i + 1) L :=
  ⟨h.nod, h.pos, fun j hj => by
    by_cases he : j = i
    · subst he; exact hr
    · exact h.cls j (by omega), h.top, h.rea⟩
theorem Bfs.done {S : Sto} {id : Int} {L : List Int} (h : Bfs S id L.length L) : Rch S id (L.mergeSort (· ≤ ·)) := by
  have hp : (L.mergeSort (· ≤ ·)).Perm L := List.mergeSort_perm L _
  have hs : (L.mergeSort (fun x y : Int => decide (x ≤ y))).Pairwise (fun a b => decide (a ≤ b) = true) :=
    List.pairwise_mergeSort (fun a b c h1 h2 => by simp at *; omega) (fun a b => by simp; omega) L
  have hn : (L.mergeSort (· ≤ ·)).Nodup := hp.nodup_iff.2 h.nod
  refine ⟨?_, fun x hx => h.pos x (hp.mem_iff.1 hx), fun x hx y hy => ?_, fun _ => hp.mem_iff.2 h.top, fun x hx hne => ?_⟩
  · refine (hs.and hn).imp ?_
    rintro a b ⟨h1, h2⟩
    have h1 : a ≤ b := by simpa using h1
    omega
  · have hx := hp.mem_iff.1 hx
    obtain ⟨h1, h2⟩ := idxOf_getD hx
    exact hp.mem_iff.2 (h.cls (L.idxOf x) h1 y (by rw [h2]; exact hy))
  · obtain ⟨z, hz, hr⟩ := h.rea x (hp.mem_iff.1 hx) hne
    exact ⟨z, hp.mem_iff.2 hz, hr⟩
theorem Rch.nil {S : Sto} : Rch S 0 [] := ⟨.nil, fun _ h => by simp at h, fun _ h => by simp at h, fun h => absurd rfl h, fun _ h => by simp at h⟩
end Go.Proofs.Ytohlphngnhcbfaa
/- A row of one's own, sorted by the library. No condition. -/
namespace Go.EG
open Go Go.Sort
set_option linter.unusedVariables false

/-- What the library's sort of integers says of itself. -/
def SortsI (P : Program) (f : FuncId) : Prop :=
  ∀ (blk off cap : Nat) (zs : List Int) (w : World), Holds (Value.int .i64) w blk off zs.toArray → blk < w.heap.size → zs.length < 4611686018427387904 →
    Calls P f #[.slice (some ⟨blk, off, none⟩) zs.length cap] w fun e w' => e = .returned (.tuple #[]) ∧ ∃ n os, w' = grow (putRow (Value.int .i64) (Sort.ahead w n) blk off (zs.mergeSort fun x y => decide (x ≤ y)).toArray) os

theorem R_sorted {w0 w : World} {fp0 : List Nat} {L : List Ent} {key : Nat} {a : Option Addr} {n c T : Nat} {zs : List Int} (hR : R w0 fp0 L w) (hb : ownAt key L = some ⟨a, n, c, T, 1, ints .i64 zs⟩) (hn : zs.length = n) (h0 : 0 < n) :
    ∃ blk, a = some ⟨blk, 0, none⟩ ∧ Holds (Value.int .i64) w blk 0 zs.toArray ∧ blk < w.heap.size ∧
      ∀ m os, R w0 fp0 (setOwn key a n c (ints .i64 (zs.mergeSort fun x y => decide (x ≤ y))) L) (grow (putRow (Value.int .i64) (Sort.ahead w m) blk 0 (zs.mergeSort fun x y => decide (x ≤ y)).toArray) os) := by
  obtain ⟨L', h1, h2⟩ := ownAt_perm hb
  have hR' := hR.perm h1
  have hrow : w.ownsRow 0 T 1 (.slice a n c) n (ints .i64 zs) := hR'.ok (.own key a n c T 1 (ints .i64 zs)) (List.mem_cons_self ..)
  rcases hrow.2 with ⟨hv, h⟩ | ⟨g, cap, cur, hv, hbase, hg, r3, r4, r5, r6⟩
  · omega
  · simp only [Value.slice.injEq, true_and] at hv
    obtain ⟨rfl, rfl⟩ := hv
    subst hn
    have hlt : g < w.heap.size := (Array.getElem?_eq_some_iff.1 hg).1
    refine ⟨g, rfl, holds_of_blockI hg (by simpa [ints] using r6), hlt, fun m os => ?_⟩
    obtain ⟨g1, g2, g3, g4, g5⟩ := grownBy_sortedI (w := w) (g := g) (n := m) (os := os) (zs.mergeSort fun x y => decide (x ≤ y)).toArray
    refine (R.grow (e' := .own key (some ⟨g, 0, none⟩) zs.length c T 1 (ints .i64 (zs.mergeSort fun x y => decide (x ≤ y)))) hR' (fun x hx => .inl hx) (by simp [Ent.fp, Value.ownBlock]) ?_ ?_ ?_ ?_ ?_ ?_).perm (h2 _ _ _ _).symm
    · exact ownsRow_sortedI (by simp) hbase hg r3 r4 r5
    · simp [grow, putRow, mapBlock, Sort.ahead]
    · rfl
    · rfl
    · rfl
    · intro b hb' hne
      exact g5 b hb' (by simpa [Ent.fp, Value.ownBlock, eq_comm] using hne)

/-- A call of the library's sort. -/
theorem CallK_sort {P : Program} {w0 : World} {fp0 : List Nat} {L : List Ent} {f : FuncId} {key : Nat} {a : Option Addr} {n c T : Nat} {zs : List Int} {k : SV → List Ent → Prop} (hs : SortsI P f) (hb : ownAt key L = some ⟨a, n, c, T, 1, ints .i64 zs⟩) (hn : zs.length = n) (h0 : 0 < n) (hsz : n < 4611686018427387904)
    (hk : k (.v (.tuple #[])) (setOwn key a n c (ints .i64 (zs.mergeSort fun x y => decide (x ≤ y))) L)) : CallK P w0 fp0 f [.slice a n c] L k := by
  intro w hR
  obtain ⟨blk, rfl, hH, hlt, hend⟩ := R_sorted hR hb hn h0
  subst hn
  exact (hs blk 0 c zs w hH hlt hsz).mono fun e w' ⟨he, m, os, hw⟩ => ⟨_, .v (.tuple #[]), _, he, rfl, hw ▸ hend m os, hk⟩
end Go.EG
/- Counts of letters, the first occurrence of a letter, of what a grammar derives. Plain Lean: no program in sight. -/
namespace Go.Proofs.Ytohlphngnhcbfaa
open Go.EG
set_option linter.unusedSimpArgs false
set_option linter.unusedVariables false

/-- A grammar and what its numbers derive. -/
structure Gr (g : List Rul) (ms : List Tm) : Prop where
  len : ms.length = g.length
  most : g.length ≤ 1048576
  ok : ∀ i, i < g.length → okR (g.getD i rul0) (i + 1)
  let_ : ∀ i, i < g.length → 0 ≤ (g.getD i rul0).l ∧ (g.getD i rul0).l < 256
  fit : ∀ i, i < g.length → 1 ≤ (ms.getD i .nil).len ∧ (ms.getD i .nil).len ≤ LM
  term : ∀ i, i < g.length → ms.getD i .nil = gT ms (g.getD i rul0)
/-- Number x of a grammar. -/
theorem Gr.cases {g : List Rul} {ms : List Tm} (h : Gr g ms) {i : Nat} (hi : i < g.length) :
    (((g.getD i rul0).k = 1 ∧ (g.getD i rul0).a = 0 ∧ (g.getD i rul0).b = 0 ∧ ∃ l : Nat, l < 256 ∧ (g.getD i rul0).l = l ∧ mAt ms ((i : Int) + 1) = .lt l) ∨
     ((g.getD i rul0).k = 2 ∧ ∃ p q : Nat, p < i ∧ q < i ∧ (g.getD i rul0).a = (p : Int) + 1 ∧ (g.getD i rul0).b = (q : Int) + 1 ∧ mAt ms ((i : Int) + 1) = .pr (mAt ms ((p : Int) + 1)) (mAt ms ((q : Int) + 1)) ∧ (mAt ms ((p : Int) + 1)).len + (mAt ms ((q : Int) + 1)).len ≤ LM) ∨
     ((g.getD i rul0).k = 3 ∧ (g.getD i rul0).b = 0 ∧ ∃ p k : Nat, p < i ∧ 2 ≤ k ∧ (g.getD i rul0).a = (p : Int) + 1 ∧ (g.getD i rul0).t = (k : Int) ∧ mAt ms ((i : Int) + 1) = .pw (mAt ms ((p : Int) + 1)) k ∧ k * (mAt ms ((p : Int) + 1)).len ≤ LM)) ∧
    1 ≤ (mAt ms ((i : Int) + 1)).len ∧ (mAt ms ((i : Int) + 1)).len ≤ LM := by
  have e : mAt ms ((i : Int) + 1) = ms.getD i .nil := by
    unfold mAt
    rw [if_neg (by omega), show ((i : Int) + 1).toNat - 1 = i by omega]
  have ht := h.term i hi
  have ho := h.ok i hi
  have hl := h.let_ i hi
  have hf := h.fit i hi
  rw [← e] at ht hf
  refine ⟨?_, hf⟩
  generalize g.getD i rul0 = r at *
  unfold gT at ht
  rcases ho with ⟨h1, h2, h3, _⟩ | ⟨h1, h2, h3, h4, h5, h6, h7⟩ | ⟨h1, h2, h3, h4, h5, h6⟩
  · rw [if_pos h1] at ht
    exact .inl ⟨h1, h2, h3, r.l.toNat, by omega, by omega, ht⟩
  · rw [if_neg (by omega), if_pos h1] at ht
    refine .inr (.inl ⟨h1, (r.a - 1).toNat, (r.b - 1).toNat, by omega, by omega, by omega, by omega, ?_, ?_⟩)
    · rw [ht]; congr 2 <;> omega
    · have := hf.2
      rw [ht, Tm.len_pr] at this
      rw [show (((r.a - 1).toNat : Nat) : Int) + 1 = r.a by omega, show (((r.b - 1).toNat : Nat) : Int) + 1 = r.b by omega]
      exact this
  · rw [if_neg (by omega), if_neg (by omega)] at ht
    refine .inr (.inr ⟨h1, h3, (r.a - 1).toNat, r.t.toNat, by omega, by omega, by omega, by omega, ?_, ?_⟩)
    · rw [ht]; congr 2; omega
    · have := hf.2
      rw [ht, Tm.len_pw] at this
      rw [show (((r.a - 1).toNat : Nat) : Int) + 1 = r.a by omega]
      exact this
theorem Rch.gr {S : Sto} (hw : WF S) {id : Int} {L : List Int} (h : Rch S id L) (hk : id ≤ S.E.length) : Gr (xg S L) (L.map (tm S.E)) := by
  have hlen : L.length ≤ 1048576 := by
    have := hw.small
    rcases h.len with h | h
    · omega
    · rw [h]; simp
  refine ⟨by rw [xg_length, List.length_map], by rw [xg_length]; exact hlen, fun i hi => h.ok hw hk (by rwa [xg_length] at hi), fun i hi => h.let_ hw hk (by rwa [xg_length] at hi), fun i hi => ?_, fun i hi => ?_⟩
  · rw [xg_length] at hi
    obtain ⟨p1, p2⟩ := h.pos _ (getD_mem hi)
    rw [getD_map (d := 0) hi]
    exact ⟨hw.pos1 p1 (by omega), hw.le (by omega)⟩
  · rw [xg_length] at hi
    rw [getD_map (d := 0) hi, ← h.term hw hk hi, xg, getD_map (d := 0) hi]
    have ho := h.ok hw hk hi
    rw [xg, getD_map (d := 0) hi] at ho
    have key : ∀ y : Int, y < (i : Int) + 1 → mAt ((L.take i).map (tm S.E)) y = mAt (L.map (tm S.E)) y := fun y hy => by
      conv => rhs; rw [← List.take_append_drop i L, List.map_append]
      unfold mAt
      split
      · rfl
      · rw [getD_append_left (by rw [List.length_map, List.length_take]; omega)]
    generalize ren L (atE S.E (L.getD i 0)).r = r at *
    unfold gT
    rcases ho with ⟨h1, h2, h3, _⟩ | ⟨h1, h2, h3, h4, h5, h6, h7⟩ | ⟨h1, h2, h3, h4, h5, h6⟩
    · rw [if_pos h1, if_pos h1]
    · rw [if_neg (by omega), if_pos h1, if_neg (by omega), if_pos h1, key _ h5, key _ h7]
    · rw [if_neg (by omega), if_neg (by omega), if_neg (by omega), if_neg (by omega), key _ h6]
/-- The last number derives what the ID derives. -/
theorem Rch.top_ {S : Sto} {id : Int} {L : List Int} (h : Rch S id L) (h0 : 0 ≤ id) : mAt (L.map (tm S.E)) L.length = tm S.E id := by
  by_cases hz : id = 0
  · subst hz
    have : L = [] := by
      cases hL : L with
      | nil => rfl
      | cons x t => exact absurd (h.pos x (by rw [hL]; simp)) (by omega)
    subst this; rfl
  · obtain ⟨h1, h2⟩ := h.last hz
    unfold mAt
    rw [if_neg (by omega), show ((L.length : Nat) : Int).toNat - 1 = L.length - 1 by omega, getD_map (d := 0) (by omega), h2]

/-! ### Counts -/

def cnt (p : Nat → Bool) (t : List Nat) : Nat := t.countP p
theorem cnt_append (p : Nat → Bool) (s t : List Nat) : cnt p (s ++ t) = cnt p s + cnt p t := List.countP_append
theorem cnt_le (p : Nat → Bool) (t : List Nat) : cnt p t ≤ t.length := List.countP_le_length
theorem cnt_rep (p : Nat → Bool) (t : List Nat) : ∀ k, cnt p (rep k t) = k * cnt p t
  | 0 => by simp [rep, cnt]
  | k + 1 => by
    have := cnt_rep p t k
    rw [rep_succ, cnt_append, this, Nat.succ_mul, Nat.add_comm]
theorem cnt_one (p : Nat → Bool) (l : Nat) : cnt p [l] = if p l then 1 else 0 := by simp [cnt, List.countP_cons]
theorem cnt_nil (p : Nat → Bool) : cnt p [] = 0 := rfl
theorem cnt_take_pair (p : Nat → Bool) {s t : List Nat} {i : Nat} (h : s.length ≤ i) : cnt p ((s ++ t).take i) = cnt p s + cnt p (t.take (i - s.length)) := by
  rw [List.take_append, List.take_of_length_le h, cnt_append]
theorem take_pair_left {s t : List Nat} {i : Nat} (h : i ≤ s.length) : (s ++ t).take i = s.take i := by
  rw [List.take_append, show i - s.length = 0 by omega, List.take_zero, List.append_nil]
theorem take_rep {t : List Nat} {k i : Nat} (ht : 0 < t.length) (h : i < k * t.length) : (rep k t).take i = rep (i / t.length) t ++ t.take (i % t.length) := by
  have hq : i / t.length < k := (Nat.div_lt_iff_lt_mul ht).2 h
  have e := Nat.div_add_mod i t.length
  have hm := Nat.mod_lt i ht
  rw [Nat.mul_comm] at e
  have h1 : (rep k t).take i = (rep k t).take (i / t.length * t.length) ++ ((rep k t).drop (i / t.length * t.length)).take (i % t.length) := by
    rw [← List.take_add, e]
  rw [h1, rep_take_mul (by omega), rep_drop_mul (by omega)]
  congr 1
  obtain ⟨m, hm'⟩ : ∃ m, k - i / t.length = m + 1 := ⟨k - i / t.length - 1, by omega⟩
  rw [hm', rep_succ, take_pair_left (by omega)]
theorem cnt_take_rep (p : Nat → Bool) {t : List Nat} {k i : Nat} (ht : 0 < t.length) (h : i < k * t.length) : cnt p ((rep k t).take i) = i / t.length * cnt p t + cnt p (t.take (i % t.length)) := by
  rw [take_rep ht h, cnt_append, cnt_rep]
/-- The count of a range is a difference. -/
theorem cnt_sub (p : Nat → Bool) (t : List Nat) (i n : Nat) : cnt p (t.take (i + n)) = cnt p (t.take i) + cnt p (sub t i n) := by
  rw [List.take_add, cnt_append]; rfl
theorem cnt_not (p : Nat → Bool) (t : List Nat) : cnt p t + cnt (fun x => !p x) t = t.length := by
  induction t with
  | nil => rfl
  | cons x t ih =>
    simp only [cnt, List.countP_cons, List.length_cons] at ih ⊢
    cases p x <;> simp <;> omega
theorem cnt_congr {p q : Nat → Bool} {t : List Nat} (h : ∀ x ∈ t, p x = q x) : cnt p t = cnt q t := List.countP_congr fun x hx => by rw [h x hx]

/-! ### The first occurrence -/

theorem idx_left {b : Nat} {s : List Nat} (h : b ∈ s) (t : List Nat) : (s ++ t).idxOf b = s.idxOf b := by rw [List.idxOf_append, if_pos h]
theorem idx_right {b : Nat} {s : List Nat} (h : b ∉ s) (t : List Nat) : (s ++ t).idxOf b = t.idxOf b + s.length := by rw [List.idxOf_append, if_neg h]
/-- The first offset of a letter; -1 if there is none. -/
def fst1 (b : Nat) (t : List Nat) : Int := if b ∈ t then (t.idxOf b : Int) else -1
theorem fst1_pos {b : Nat} {t : List Nat} (h : b ∈ t) : fst1 b t = (t.idxOf b : Int) ∧ t.idxOf b < t.length := ⟨if_pos h, List.idxOf_lt_length_of_mem h⟩
theorem fst1_neg {b : Nat} {t : List Nat} (h : b ∉ t) : fst1 b t = -1 := if_neg h
theorem fst1_ge {b : Nat} {t : List Nat} : 0 ≤ fst1 b t ↔ b ∈ t := by
  unfold fst1
  split
  · rename_i h; exact ⟨fun _ => h, fun _ => by omega⟩
  · rename_i h; exact ⟨fun h0 => by omega, fun h0 => absurd h0 h⟩
theorem fst1_append (b : Nat) (s t : List Nat) : fst1 b (s ++ t) = if 0 ≤ fst1 b s then fst1 b s else if 0 ≤ fst1 b t then s.length + fst1 b t else -1 := by
  by_cases hs : b ∈ s
  · rw [if_pos (fst1_ge.2 hs), (fst1_pos hs).1, (fst1_pos (List.mem_append_left _ hs)).1, idx_left hs]
  · rw [if_neg (fun h => hs (fst1_ge.1 h))]
    by_cases ht : b ∈ t
    · rw [if_pos (fst1_ge.2 ht), (fst1_pos ht).1, (fst1_pos (List.mem_append_right _ ht)).1, idx_right hs]
      omega
    · rw [if_neg (fun h => ht (fst1_ge.1 h)), fst1_neg (by simp [hs, ht])]
theorem mem_rep {b : Nat} {t : List Nat} : ∀ {k : Nat}, b ∈ rep k t ↔ 0 < k ∧ b ∈ t
  | 0 => by simp [rep]
  | k + 1 => by
    rw [rep_succ, List.mem_append, mem_rep]
    constructor
    · rintro (h | h)
      · exact ⟨by omega, h⟩
      · exact ⟨by omega, h.2⟩
    · exact fun h => .inl h.2
theorem fst1_rep (b : Nat) (t : List Nat) {k : Nat} (h : 0 < k) : fst1 b (rep k t) = fst1 b t := by
  obtain ⟨m, rfl⟩ : ∃ m, k = m + 1 := ⟨k - 1, by omega⟩
  by_cases ht : b ∈ t
  · rw [(fst1_pos ht).1, (fst1_pos (mem_rep.2 ⟨h, ht⟩)).1, rep_succ, idx_left ht]
  · rw [fst1_neg ht, fst1_neg (fun hm => ht (mem_rep.1 hm).2)]
/-- What is found from base on, or later. -/
def fin (b i base : Nat) (later : Int) (t : List Nat) : Int := if 0 ≤ fst1 b (t.drop i) then base + i + fst1 b (t.drop i) else later
/-! ### Rows that are filled from the left -/

def upto (f : Nat → Int) (k i : Nat) : List Int := (List.range (k + 1)).map fun x => if x ≤ i then f x else 0
theorem upto_length (f : Nat → Int) (k i : Nat) : (upto f k i).length = k + 1 := by simp [upto]
theorem upto_get {f : Nat → Int} {k i x : Nat} (h : x ≤ i) (hk : x ≤ k) : (ints .i64 (upto f k i))[x]? = some (.int .i64 (f x)) := by
  simp [upto, ints, List.getElem?_range, show x < k + 1 by omega, h]
theorem upto_next {f : Nat → Int} {k i : Nat} : (upto f k i).set (i + 1) (f (i + 1)) = upto f k (i + 1) := by
  refine List.ext_getElem (by simp [upto]) fun x h1 h2 => ?_
  rw [List.getElem_set]
  simp only [upto, List.getElem_map, List.getElem_range]
  by_cases hx : i + 1 = x
  · subst hx; simp
  · rw [if_neg hx]
    by_cases h : x ≤ i
    · rw [if_pos h, if_pos (by omega)]
    · rw [if_neg h, if_neg (by omega)]
theorem upto_stay {f : Nat → Int} {k i : Nat} (h : f (i + 1) = 0) : upto f k i = upto f k (i + 1) := by
  refine List.ext_getElem (by simp [upto]) fun x h1 h2 => ?_
  simp only [upto, List.getElem_map, List.getElem_range]
  by_cases hx : x = i + 1
  · subst hx; rw [if_neg (by omega), if_pos (by omega), h]
  · by_cases h : x ≤ i
    · rw [if_pos h, if_pos (by omega)]
    · rw [if_neg h, if_neg (by omega)]
theorem upto_zero {f : Nat → Int} {k : Nat} (h : f 0 = 0) : List.replicate (k + 1) 0 = upto f k 0 := by
  refine List.ext_getElem (by simp [upto]) fun x h1 h2 => ?_
  simp only [upto, List.getElem_map, List.getElem_range, List.getElem_replicate]
  by_cases hx : x ≤ 0
  · rw [if_pos hx, show x = 0 by omega, h]
  · rw [if_neg hx]
theorem upto_set {f : Nat → Int} {k i : Nat} (h : i + 1 ≤ k) {v : Int} (hv : v = f (i + 1)) : splice (ints .i64 (upto f k i)) (i + 1) [.int .i64 v] = ints .i64 (upto f k (i + 1)) := by
  rw [splice_ints (by rw [upto_length]; omega), hv, upto_next]
theorem upto_len {f : Nat → Int} {k i x : Nat} (h : x ≤ k) : x + 1 ≤ (ints .i64 (upto f k i)).length := by rw [ints_length, upto_length]; omega

/-- The rows of lengths, of first offsets, of counts. -/
def rowN (ms : List Tm) (x : Nat) : Int := ((mAt ms x).len : Nat)
def rowF (b : Nat) (ms : List Tm) (x : Nat) : Int := if x = 0 then 0 else fst1 b (mAt ms x).txt
def rowC (p : Nat → Bool) (ms : List Tm) (x : Nat) : Int := (cnt p (mAt ms x).txt : Nat)
theorem rowN_zero (ms : List Tm) : rowN ms 0 = 0 := rfl
theorem rowC_zero (p : Nat → Bool) (ms : List Tm) : rowC p ms 0 = 0 := rfl
theorem rowF_succ (b : Nat) (ms : List Tm) (x : Nat) : rowF b ms (x + 1) = fst1 b (mAt ms ((x : Int) + 1)).txt := by
  unfold rowF
  rw [if_neg (by omega)]
  congr 3
theorem rowN_succ (ms : List Tm) (x : Nat) : rowN ms (x + 1) = ((mAt ms ((x : Int) + 1)).len : Nat) := by
  unfold rowN
  congr 3
theorem rowC_succ (p : Nat → Bool) (ms : List Tm) (x : Nat) : rowC p ms (x + 1) = (cnt p (mAt ms ((x : Int) + 1)).txt : Nat) := by
  unfold rowC
  congr 3
/-- The rows at a number. -/
theorem Gr.rows {g : List Rul} {ms : List Tm} (h : Gr g ms) (b : Nat) (p : Nat → Bool) {i : Nat} (hi : i < g.length) :
    ((g.getD i rul0).k = 1 ∧ ∃ l : Nat, l < 256 ∧ (g.getD i rul0).l = l ∧ rowN ms (i + 1) = 1 ∧ rowF b ms (i + 1) = (if l = b then 0 else -1) ∧ rowC p ms (i + 1) = (if p l then 1 else 0)) ∨
    ((g.getD i rul0).k = 2 ∧ ∃ x y : Nat, x < i ∧ y < i ∧ (g.getD i rul0).a = (x : Int) + 1 ∧ (g.getD i rul0).b = (y : Int) + 1 ∧ rowN ms (i + 1) = rowN ms (x + 1) + rowN ms (y + 1) ∧ rowF b ms (i + 1) = (if 0 ≤ rowF b ms (x + 1) then rowF b ms (x + 1) else if 0 ≤ rowF b ms (y + 1) then rowN ms (x + 1) + rowF b ms (y + 1) else -1) ∧ rowC p ms (i + 1) = rowC p ms (x + 1) + rowC p ms (y + 1)) ∨
    ((g.getD i rul0).k = 3 ∧ ∃ x k : Nat, x < i ∧ 2 ≤ k ∧ (g.getD i rul0).a = (x : Int) + 1 ∧ (g.getD i rul0).t = (k : Int) ∧ rowN ms (i + 1) = rowN ms (x + 1) * k ∧ rowF b ms (i + 1) = rowF b ms (x + 1) ∧ rowC p ms (i + 1) = rowC p ms (x + 1) * k) := by
  obtain ⟨hc, _⟩ := h.cases hi
  rcases hc with ⟨h1, _, _, l, h2, h3, h4⟩ | ⟨h1, x, y, h2, h3, h4, h5, h6, _⟩ | ⟨h1, _, x, k, h2, h3, h4, h5, h6, _⟩
  · refine .inl ⟨h1, l, h2, h3, ?_, ?_, ?_⟩
    · rw [rowN_succ, h4]; rfl
    · rw [rowF_succ, h4]
      by_cases hl : l = b
      · rw [if_pos hl, hl]; simp [fst1, Tm.txt]
      · rw [if_neg hl]; exact fst1_neg (by simp [Tm.txt]; exact Ne.symm hl)
    · rw [rowC_succ, h4, Tm.txt, cnt_one]; split <;> rfl
  · refine .inr (.inl ⟨h1, x, y, h2, h3, h4, h5, ?_, ?_, ?_⟩)
    · rw [rowN_succ, rowN_succ, rowN_succ, h6, Tm.len_pr]; push_cast; rfl
    · rw [rowF_succ, rowF_succ, rowF_succ, rowN_succ, h6, Tm.txt, fst1_append]; rfl
    · rw [rowC_succ, rowC_succ, rowC_succ, h6, Tm.txt, cnt_append]; push_cast; rfl
  · refine .inr (.inr ⟨h1, x, k, h2, h3, h4, h5, ?_, ?_, ?_⟩)
    · rw [rowN_succ, rowN_succ, h6, Tm.len_pw]; push_cast; rw [Int.mul_comm]
    · rw [rowF_succ, rowF_succ, h6, Tm.txt, fst1_rep _ _ (by omega)]
    · rw [rowC_succ, rowC_succ, h6, Tm.txt, cnt_rep]; push_cast; rw [Int.mul_comm]
theorem Gr.rowN_le {g : List Rul} {ms : List Tm} (h : Gr g ms) {i : Nat} (hi : i < g.length) : 1 ≤ rowN ms (i + 1) ∧ rowN ms (i + 1) ≤ 1152921504606846976 := by
  have h2 := (h.cases hi).2
  rw [rowN_succ]
  have : (mAt ms ((i : Int) + 1)).len ≤ 1152921504606846976 := h2.2
  omega
theorem rowC_le (p : Nat → Bool) (ms : List Tm) (x : Nat) : 0 ≤ rowC p ms x ∧ rowC p ms x ≤ rowN ms x := by
  unfold rowC rowN Tm.len
  have := cnt_le p (mAt ms x).txt
  omega

end Go.Proofs.Ytohlphngnhcbfaa

/- A rule is added to the reference's list: the last statement, in any order (written by a program, addgen.py). -/
import Derived.Test.YtohlphngnhcbfaaK4
import Derived.Test.YtohlphngnhcbfaaK2
namespace Go.Proofs.Ytohlphngnhcbfaa
open Go.EG
attribute [local irreducible] CallK QCall Go.Calls
set_option linter.unusedSimpArgs false
set_option linter.unusedVariables false
set_option maxRecDepth 20000
set_option maxHeartbeats 4000000
section
structure AddH (w : World) (K : Env → List Ent → Prop) (Lb Lh : List Ent) (E : List Entr) (r : Rul) (N : Nat) (a1 a2 : Option Addr) (c1 c2 b6 : Nat) (xs ys : List Value) : Prop where
  hE : E.length ≤ 1048576
  th : Thin Lh Lb
  o1 : oneAll xs
  o2 : oneAll ys
  rs : ∀ L, RdS w [] L a1 (E.length * 5) xs
  rl : ∀ L, RdS w [] L a2 (E.length * 1) ys
  lx : xs.length = E.length * 5
  fin : ∀ (q1 : Option Addr) (q2 : Nat) (z1 : Option Addr) (z2 : Nat), VT Try.prog w [] ops_evergreenref12_Add_6 K tr_evergreenref12_Add_0 Lb [(40, .v (.agg #[.slice q1 (E.length + 1) q2, .slice z1 (E.length + 1) z2])), (44, .v (.int .i64 ((E.length : Int) + 1))), (6, .ptr 6 b6 0)] (.own 26 q1 (E.length + 1) q2 ty_api_Rule 5 (xs ++ ruC r) :: .own 33 z1 (E.length + 1) z2 ty_int 1 (ys ++ [.int .i64 N]) :: Lh)
variable {w : World} {K : Env → List Ent → Prop} {Lb Lh : List Ent} {E : List Entr} {r : Rul} {N : Nat} {a1 a2 : Option Addr} {c1 c2 b6 : Nat} {xs ys : List Value}
theorem add_0 (h : AddH w K Lb Lh E r N a1 a2 c1 c2 b6 xs ys) : ∀ (q1 : Option Addr) (q2 : Nat) (z1 : Option Addr) (z2 : Nat), VT Try.prog w [] ops_evergreenref12_Add_6 K tr_evergreenref12_Add_0 Lb [(40, .v (.agg #[.slice q1 (E.length + 1) q2, .slice z1 (E.length + 1) z2])), (44, .v (.int .i64 ((E.length : Int) + 1))), (6, .ptr 6 b6 0)] (.own 26 q1 (E.length + 1) q2 ty_api_Rule 5 (xs ++ ruC r) :: .own 33 z1 (E.length + 1) z2 ty_int 1 (ys ++ [.int .i64 N]) :: Lh) := h.fin
theorem add_1 (h : AddH w K Lb Lh E r N a1 a2 c1 c2 b6 xs ys) : ∀ (q1 : Option Addr) (q2 : Nat) (z1 : Option Addr) (z2 : Nat) (z3 : Option Addr), VT Try.prog w [] ops_evergreenref12_Add_6 K tr_evergreenref12_Add_1 Lb [(32, .sl 26 q1 (E.length + 1) q2), (36, .sl 33 z1 E.length z2), (38, .sl 38 z3 1 1), (28, .v (.slice a1 E.length c1)), (30, .v (ruV r)), (35, .v (.slice a2 E.length c2)), (37, .v (.int .i64 N)), (44, .v (.int .i64 ((E.length : Int) + 1))), (6, .ptr 6 b6 0)] (.own 26 q1 (E.length + 1) q2 ty_api_Rule 5 (xs ++ ruC r) :: .own 33 z1 E.length z2 ty_int 1 ys :: .own 38 z3 1 1 ty_int 1 ([.int .i64 N]) :: Lh) := by
  have hE := h.hE
  have o1 := h.o1
  have o2 := h.o2
  intro q1 q2 z1 z2 z3
  (repeat' ((conv => whnf); first | refine ⟨xs, h.rs _, ?_⟩ | refine ⟨ys, h.rl _, ?_⟩ | refine And.intro (by first | exact o1 | exact o2 | exact fun _ => Thin.ref (.skip (h.th)) | exact fun _ => Thin.ref (.skip (.skip (h.th))) | exact fun _ => Thin.ref (.skip (.skip (.skip (h.th)))) | exact fun _ => Thin.ref (.skip (.skip (.skip (.skip (h.th))))) | exact Thin.ref (.skip (h.th)) | exact Thin.ref (.skip (.skip (h.th))) | exact Thin.ref (.skip (.skip (.skip (h.th)))) | exact Thin.ref (.skip (.skip (.skip (.skip (h.th))))) | exact ⟨rfl, oneAll_of rfl⟩ | exact oneAll_of rfl | exact rfl | exact ⟨rfl, rfl, rfl, rfl⟩ | exact ⟨rfl, rfl, rfl, rfl, rfl⟩ | exact ⟨by unfold maxLen; omega, by omega⟩ | omega) ?_ | intro _)); refine VC_can (t := tr_evergreenref12_Add_0) _ _ (by (repeat ((conv => whnf); refine And.intro (by first | exact rfl | exact vint_eq (by omega) | exact vint_eq (by (dsimp only; omega)) | exact vsl_eq (by omega) | exact vsl_eq (by first | (dsimp only; omega) | (simp; done) | (simp; omega))) ?_)); exact trivial) (Thin.ref (.own (by omega) rfl (.own (by omega) rfl (.skip (Thin.refl _))))) (add_0 h _ _ _ _)

theorem add_2 (h : AddH w K Lb Lh E r N a1 a2 c1 c2 b6 xs ys) : ∀ (q1 : Option Addr) (q2 : Nat) (z1 : Option Addr) (z2 : Nat), VT Try.prog w [] ops_evergreenref12_Add_6 K tr_evergreenref12_Add_2 Lb [(32, .sl 26 q1 (E.length + 1) q2), (36, .sl 33 z1 E.length z2), (28, .v (.slice a1 E.length c1)), (30, .v (ruV r)), (35, .v (.slice a2 E.length c2)), (37, .v (.int .i64 N)), (44, .v (.int .i64 ((E.length : Int) + 1))), (6, .ptr 6 b6 0)] (.own 26 q1 (E.length + 1) q2 ty_api_Rule 5 (xs ++ ruC r) :: .own 33 z1 E.length z2 ty_int 1 ys :: Lh) := by
  have hE := h.hE
  have o1 := h.o1
  have o2 := h.o2
  intro q1 q2 z1 z2
  (repeat' ((conv => whnf); first | refine ⟨xs, h.rs _, ?_⟩ | refine ⟨ys, h.rl _, ?_⟩ | refine And.intro (by first | exact o1 | exact o2 | exact fun _ => Thin.ref (.skip (h.th)) | exact fun _ => Thin.ref (.skip (.skip (h.th))) | exact fun _ => Thin.ref (.skip (.skip (.skip (h.th)))) | exact fun _ => Thin.ref (.skip (.skip (.skip (.skip (h.th))))) | exact Thin.ref (.skip (h.th)) | exact Thin.ref (.skip (.skip (h.th))) | exact Thin.ref (.skip (.skip (.skip (h.th)))) | exact Thin.ref (.skip (.skip (.skip (.skip (h.th))))) | exact ⟨rfl, oneAll_of rfl⟩ | exact oneAll_of rfl | exact rfl | exact ⟨rfl, rfl, rfl, rfl⟩ | exact ⟨rfl, rfl, rfl, rfl, rfl⟩ | exact ⟨by unfold maxLen; omega, by omega⟩ | omega) ?_ | intro _)); refine VC_can (t := tr_evergreenref12_Add_1) _ _ (by (repeat ((conv => whnf); refine And.intro (by first | exact rfl | exact vint_eq (by omega) | exact vint_eq (by (dsimp only; omega)) | exact vsl_eq (by omega) | exact vsl_eq (by first | (dsimp only; omega) | (simp; done) | (simp; omega))) ?_)); exact trivial) ((Ref.perm (.trans (.swap _ _ _) (.cons _ (.swap _ _ _)))).trans (Thin.ref (.own (by omega) rfl (.own (by omega) rfl (.own (by omega) rfl (Thin.refl _)))))) (add_1 h _ _ _ _ _)

theorem add_3 (h : AddH w K Lb Lh E r N a1 a2 c1 c2 b6 xs ys) : ∀ (q1 : Option Addr) (q2 : Nat) (z1 : Option Addr) (z2 : Nat) (z3 : Option Addr), VT Try.prog w [] ops_evergreenref12_Add_6 K tr_evergreenref12_Add_3 Lb [(32, .sl 26 q1 (E.length + 1) q2), (33, .sl 33 z1 0 z2), (38, .sl 38 z3 1 1), (28, .v (.slice a1 E.length c1)), (30, .v (ruV r)), (35, .v (.slice a2 E.length c2)), (37, .v (.int .i64 N)), (44, .v (.int .i64 ((E.length : Int) + 1))), (6, .ptr 6 b6 0)] (.own 26 q1 (E.length + 1) q2 ty_api_Rule 5 (xs ++ ruC r) :: .own 33 z1 0 z2 ty_int 1 [] :: .own 38 z3 1 1 ty_int 1 ([.int .i64 N]) :: Lh) := by
  have hE := h.hE
  have o1 := h.o1
  have o2 := h.o2
  intro q1 q2 z1 z2 z3
  (repeat' ((conv => whnf); first | refine ⟨xs, h.rs _, ?_⟩ | refine ⟨ys, h.rl _, ?_⟩ | refine And.intro (by first | exact o1 | exact o2 | exact fun _ => Thin.ref (.skip (h.th)) | exact fun _ => Thin.ref (.skip (.skip (h.th))) | exact fun _ => Thin.ref (.skip (.skip (.skip (h.th)))) | exact fun _ => Thin.ref (.skip (.skip (.skip (.skip (h.th))))) | exact Thin.ref (.skip (h.th)) | exact Thin.ref (.skip (.skip (h.th))) | exact Thin.ref (.skip (.skip (.skip (h.th)))) | exact Thin.ref (.skip (.skip (.skip (.skip (h.th))))) | exact ⟨rfl, oneAll_of rfl⟩ | exact oneAll_of rfl | exact rfl | exact ⟨rfl, rfl, rfl, rfl⟩ | exact ⟨rfl, rfl, rfl, rfl, rfl⟩ | exact ⟨by unfold maxLen; omega, by omega⟩ | omega) ?_ | intro _)); refine VC_can (t := tr_evergreenref12_Add_1) _ _ (by (repeat ((conv => whnf); refine And.intro (by first | exact rfl | exact vint_eq (by omega) | exact vint_eq (by (dsimp only; omega)) | exact vsl_eq (by omega) | exact vsl_eq (by first | (dsimp only; omega) | (simp; done) | (simp; omega))) ?_)); exact trivial) (Thin.ref (.own (by omega) rfl (.own (by omega) rfl (.own (by omega) rfl (Thin.refl _))))) (add_1 h _ _ _ _ _)

theorem add_4 (h : AddH w K Lb Lh E r N a1 a2 c1 c2 b6 xs ys) : ∀ (q1 : Option Addr) (q2 : Nat) (z1 : Option Addr) (z2 : Nat), VT Try.prog w [] ops_evergreenref12_Add_6 K tr_evergreenref12_Add_4 Lb [(32, .sl 26 q1 (E.length + 1) q2), (33, .sl 33 z1 0 z2), (28, .v (.slice a1 E.length c1)), (30, .v (ruV r)), (35, .v (.slice a2 E.length c2)), (37, .v (.int .i64 N)), (44, .v (.int .i64 ((E.length : Int) + 1))), (6, .ptr 6 b6 0)] (.own 26 q1 (E.length + 1) q2 ty_api_Rule 5 (xs ++ ruC r) :: .own 33 z1 0 z2 ty_int 1 [] :: Lh) := by
  have hE := h.hE
  have o1 := h.o1
  have o2 := h.o2
  intro q1 q2 z1 z2
  (conv => whnf)
  refine stop_and ?_ ?_
  · (repeat' ((conv => whnf); first | refine ⟨xs, h.rs _, ?_⟩ | refine ⟨ys, h.rl _, ?_⟩ | refine And.intro (by first | exact o1 | exact o2 | exact fun _ => Thin.ref (.skip (h.th)) | exact fun _ => Thin.ref (.skip (.skip (h.th))) | exact fun _ => Thin.ref (.skip (.skip (.skip (h.th)))) | exact fun _ => Thin.ref (.skip (.skip (.skip (.skip (h.th))))) | exact Thin.ref (.skip (h.th)) | exact Thin.ref (.skip (.skip (h.th))) | exact Thin.ref (.skip (.skip (.skip (h.th)))) | exact Thin.ref (.skip (.skip (.skip (.skip (h.th))))) | exact ⟨rfl, oneAll_of rfl⟩ | exact oneAll_of rfl | exact rfl | exact ⟨rfl, rfl, rfl, rfl⟩ | exact ⟨rfl, rfl, rfl, rfl, rfl⟩ | exact ⟨by unfold maxLen; omega, by omega⟩ | omega) ?_ | intro _)); refine VC_can (t := tr_evergreenref12_Add_2) _ _ (by (repeat ((conv => whnf); refine And.intro (by first | exact rfl | exact vint_eq (by omega) | exact vint_eq (by (dsimp only; omega)) | exact vsl_eq (by omega) | exact vsl_eq (by first | (dsimp only; omega) | (simp; done) | (simp; omega))) ?_)); exact trivial) (Thin.ref (.own (by omega) rfl (.own (by omega) rfl (Thin.refl _)))) (add_2 h _ _ _ _)
  (repeat' ((conv => whnf); first | refine ⟨xs, h.rs _, ?_⟩ | refine ⟨ys, h.rl _, ?_⟩ | refine And.intro (by first | exact o1 | exact o2 | exact fun _ => Thin.ref (.skip (h.th)) | exact fun _ => Thin.ref (.skip (.skip (h.th))) | exact fun _ => Thin.ref (.skip (.skip (.skip (h.th)))) | exact fun _ => Thin.ref (.skip (.skip (.skip (.skip (h.th))))) | exact Thin.ref (.skip (h.th)) | exact Thin.ref (.skip (.skip (h.th))) | exact Thin.ref (.skip (.skip (.skip (h.th)))) | exact Thin.ref (.skip (.skip (.skip (.skip (h.th))))) | exact ⟨rfl, oneAll_of rfl⟩ | exact oneAll_of rfl | exact rfl | exact ⟨rfl, rfl, rfl, rfl⟩ | exact ⟨rfl, rfl, rfl, rfl, rfl⟩ | exact ⟨by unfold maxLen; omega, by omega⟩ | omega) ?_ | intro _)); refine VC_can (t := tr_evergreenref12_Add_3) _ _ (by (repeat ((conv => whnf); refine And.intro (by first | exact rfl | exact vint_eq (by omega) | exact vint_eq (by (dsimp only; omega)) | exact vsl_eq (by omega) | exact vsl_eq (by first | (dsimp only; omega) | (simp; done) | (simp; omega))) ?_)); exact trivial) ((Ref.perm (.trans (.swap _ _ _) (.cons _ (.swap _ _ _)))).trans (Thin.ref (.own (by omega) rfl (.own (by omega) rfl (.own (by omega) rfl (Thin.refl _)))))) (add_3 h _ _ _ _ _)

theorem add_5 (h : AddH w K Lb Lh E r N a1 a2 c1 c2 b6 xs ys) : ∀ (q1 : Option Addr) (q2 : Nat) (z3 : Option Addr), VT Try.prog w [] ops_evergreenref12_Add_6 K tr_evergreenref12_Add_5 Lb [(32, .sl 26 q1 (E.length + 1) q2), (38, .sl 38 z3 1 1), (28, .v (.slice a1 E.length c1)), (30, .v (ruV r)), (35, .v (.slice a2 E.length c2)), (37, .v (.int .i64 N)), (44, .v (.int .i64 ((E.length : Int) + 1))), (6, .ptr 6 b6 0)] (.own 26 q1 (E.length + 1) q2 ty_api_Rule 5 (xs ++ ruC r) :: .own 38 z3 1 1 ty_int 1 ([.int .i64 N]) :: Lh) := by
  have hE := h.hE
  have o1 := h.o1
  have o2 := h.o2
  intro q1 q2 z3
  (repeat' ((conv => whnf); first | refine ⟨xs, h.rs _, ?_⟩ | refine ⟨ys, h.rl _, ?_⟩ | refine And.intro (by first | exact o1 | exact o2 | exact fun _ => Thin.ref (.skip (h.th)) | exact fun _ => Thin.ref (.skip (.skip (h.th))) | exact fun _ => Thin.ref (.skip (.skip (.skip (h.th)))) | exact fun _ => Thin.ref (.skip (.skip (.skip (.skip (h.th))))) | exact Thin.ref (.skip (h.th)) | exact Thin.ref (.skip (.skip (h.th))) | exact Thin.ref (.skip (.skip (.skip (h.th)))) | exact Thin.ref (.skip (.skip (.skip (.skip (h.th))))) | exact ⟨rfl, oneAll_of rfl⟩ | exact oneAll_of rfl | exact rfl | exact ⟨rfl, rfl, rfl, rfl⟩ | exact ⟨rfl, rfl, rfl, rfl, rfl⟩ | exact ⟨by unfold maxLen; omega, by omega⟩ | omega) ?_ | intro _)); refine VC_can (t := tr_evergreenref12_Add_3) _ _ (by (repeat ((conv => whnf); refine And.intro (by first | exact rfl | exact vint_eq (by omega) | exact vint_eq (by (dsimp only; omega)) | exact vsl_eq (by omega) | exact vsl_eq (by first | (dsimp only; omega) | (simp; done) | (simp; omega))) ?_)); exact trivial) ((Ref.perm (.swap _ _ _)).trans (Thin.ref (.own (by omega) rfl (.own (by omega) rfl (.own (by omega) rfl (Thin.refl _)))))) (add_3 h _ _ _ _ _)

theorem add_6 (h : AddH w K Lb Lh E r N a1 a2 c1 c2 b6 xs ys) : ∀ (q1 : Option Addr) (q2 : Nat), VT Try.prog w [] ops_evergreenref12_Add_6 K tr_evergreenref12_Add_6 Lb [(32, .sl 26 q1 (E.length + 1) q2), (28, .v (.slice a1 E.length c1)), (30, .v (ruV r)), (35, .v (.slice a2 E.length c2)), (37, .v (.int .i64 N)), (44, .v (.int .i64 ((E.length : Int) + 1))), (6, .ptr 6 b6 0)] (.own 26 q1 (E.length + 1) q2 ty_api_Rule 5 (xs ++ ruC r) :: Lh) := by
  have hE := h.hE
  have o1 := h.o1
  have o2 := h.o2
  intro q1 q2
  (conv => whnf)
  refine stop_and ?_ ?_
  · (repeat' ((conv => whnf); first | refine ⟨xs, h.rs _, ?_⟩ | refine ⟨ys, h.rl _, ?_⟩ | refine And.intro (by first | exact o1 | exact o2 | exact fun _ => Thin.ref (.skip (h.th)) | exact fun _ => Thin.ref (.skip (.skip (h.th))) | exact fun _ => Thin.ref (.skip (.skip (.skip (h.th)))) | exact fun _ => Thin.ref (.skip (.skip (.skip (.skip (h.th))))) | exact Thin.ref (.skip (h.th)) | exact Thin.ref (.skip (.skip (h.th))) | exact Thin.ref (.skip (.skip (.skip (h.th)))) | exact Thin.ref (.skip (.skip (.skip (.skip (h.th))))) | exact ⟨rfl, oneAll_of rfl⟩ | exact oneAll_of rfl | exact rfl | exact ⟨rfl, rfl, rfl, rfl⟩ | exact ⟨rfl, rfl, rfl, rfl, rfl⟩ | exact ⟨by unfold maxLen; omega, by omega⟩ | omega) ?_ | intro _)); refine VC_can (t := tr_evergreenref12_Add_4) _ _ (by (repeat ((conv => whnf); refine And.intro (by first | exact rfl | exact vint_eq (by omega) | exact vint_eq (by (dsimp only; omega)) | exact vsl_eq (by omega) | exact vsl_eq (by first | (dsimp only; omega) | (simp; done) | (simp; omega))) ?_)); exact trivial) ((Ref.perm (.swap _ _ _)).trans (Thin.ref (.own (by omega) rfl (.own (by omega) rfl (Thin.refl _))))) (add_4 h _ _ _ _)
  (repeat' ((conv => whnf); first | refine ⟨xs, h.rs _, ?_⟩ | refine ⟨ys, h.rl _, ?_⟩ | refine And.intro (by first | exact o1 | exact o2 | exact fun _ => Thin.ref (.skip (h.th)) | exact fun _ => Thin.ref (.skip (.skip (h.th))) | exact fun _ => Thin.ref (.skip (.skip (.skip (h.th)))) | exact fun _ => Thin.ref (.skip (.skip (.skip (.skip (h.th))))) | exact Thin.ref (.skip (h.th)) | exact Thin.ref (.skip (.skip (h.th))) | exact Thin.ref (.skip (.skip (.skip (h.th)))) | exact Thin.ref (.skip (.skip (.skip (.skip (h.th))))) | exact ⟨rfl, oneAll_of rfl⟩ | exact oneAll_of rfl | exact rfl | exact ⟨rfl, rfl, rfl, rfl⟩ | exact ⟨rfl, rfl, rfl, rfl, rfl⟩ | exact ⟨by unfold maxLen; omega, by omega⟩ | omega) ?_ | intro _)); refine VC_can (t := tr_evergreenref12_Add_5) _ _ (by (repeat ((conv => whnf); refine And.intro (by first | exact rfl | exact vint_eq (by omega) | exact vint_eq (by (dsimp only; omega)) | exact vsl_eq (by omega) | exact vsl_eq (by first | (dsimp only; omega) | (simp; done) | (simp; omega))) ?_)); exact trivial) ((Ref.perm (.swap _ _ _)).trans (Thin.ref (.own (by omega) rfl (.own (by omega) rfl (Thin.refl _))))) (add_5 h _ _ _)

theorem add_7 (h : AddH w K Lb Lh E r N a1 a2 c1 c2 b6 xs ys) : ∀ (q1 : Option Addr) (q2 : Nat) (q3 : Option Addr) (z1 : Option Addr) (z2 : Nat) (z3 : Option Addr), VT Try.prog w [] ops_evergreenref12_Add_6 K tr_evergreenref12_Add_7 Lb [(29, .sl 26 q1 E.length q2), (31, .sl 31 q3 1 1), (33, .sl 33 z1 0 z2), (38, .sl 38 z3 1 1), (28, .v (.slice a1 E.length c1)), (30, .v (ruV r)), (35, .v (.slice a2 E.length c2)), (37, .v (.int .i64 N)), (44, .v (.int .i64 ((E.length : Int) + 1))), (6, .ptr 6 b6 0)] (.own 26 q1 E.length q2 ty_api_Rule 5 xs :: .own 31 q3 1 1 ty_api_Rule 5 (ruC r) :: .own 33 z1 0 z2 ty_int 1 [] :: .own 38 z3 1 1 ty_int 1 ([.int .i64 N]) :: Lh) := by
  have hE := h.hE
  have o1 := h.o1
  have o2 := h.o2
  intro q1 q2 q3 z1 z2 z3
  (repeat' ((conv => whnf); first | refine ⟨xs, h.rs _, ?_⟩ | refine ⟨ys, h.rl _, ?_⟩ | refine And.intro (by first | exact o1 | exact o2 | exact fun _ => Thin.ref (.skip (h.th)) | exact fun _ => Thin.ref (.skip (.skip (h.th))) | exact fun _ => Thin.ref (.skip (.skip (.skip (h.th)))) | exact fun _ => Thin.ref (.skip (.skip (.skip (.skip (h.th))))) | exact Thin.ref (.skip (h.th)) | exact Thin.ref (.skip (.skip (h.th))) | exact Thin.ref (.skip (.skip (.skip (h.th)))) | exact Thin.ref (.skip (.skip (.skip (.skip (h.th))))) | exact ⟨rfl, oneAll_of rfl⟩ | exact oneAll_of rfl | exact rfl | exact ⟨rfl, rfl, rfl, rfl⟩ | exact ⟨rfl, rfl, rfl, rfl, rfl⟩ | exact ⟨by unfold maxLen; omega, by omega⟩ | omega) ?_ | intro _)); refine VC_can (t := tr_evergreenref12_Add_3) _ _ (by (repeat ((conv => whnf); refine And.intro (by first | exact rfl | exact vint_eq (by omega) | exact vint_eq (by (dsimp only; omega)) | exact vsl_eq (by omega) | exact vsl_eq (by first | (dsimp only; omega) | (simp; done) | (simp; omega))) ?_)); exact trivial) (Thin.ref (.own (by omega) rfl (.skip (.own (by omega) rfl (.own (by omega) rfl (Thin.refl _)))))) (add_3 h _ _ _ _ _)

theorem add_8 (h : AddH w K Lb Lh E r N a1 a2 c1 c2 b6 xs ys) : ∀ (q1 : Option Addr) (q2 : Nat) (q3 : Option Addr) (z1 : Option Addr) (z2 : Nat), VT Try.prog w [] ops_evergreenref12_Add_6 K tr_evergreenref12_Add_8 Lb [(29, .sl 26 q1 E.length q2), (31, .sl 31 q3 1 1), (33, .sl 33 z1 0 z2), (28, .v (.slice a1 E.length c1)), (30, .v (ruV r)), (35, .v (.slice a2 E.length c2)), (37, .v (.int .i64 N)), (44, .v (.int .i64 ((E.length : Int) + 1))), (6, .ptr 6 b6 0)] (.own 26 q1 E.length q2 ty_api_Rule 5 xs :: .own 31 q3 1 1 ty_api_Rule 5 (ruC r) :: .own 33 z1 0 z2 ty_int 1 [] :: Lh) := by
  have hE := h.hE
  have o1 := h.o1
  have o2 := h.o2
  intro q1 q2 q3 z1 z2
  (conv => whnf)
  refine stop_and ?_ ?_
  · (repeat' ((conv => whnf); first | refine ⟨xs, h.rs _, ?_⟩ | refine ⟨ys, h.rl _, ?_⟩ | refine And.intro (by first | exact o1 | exact o2 | exact fun _ => Thin.ref (.skip (h.th)) | exact fun _ => Thin.ref (.skip (.skip (h.th))) | exact fun _ => Thin.ref (.skip (.skip (.skip (h.th)))) | exact fun _ => Thin.ref (.skip (.skip (.skip (.skip (h.th))))) | exact Thin.ref (.skip (h.th)) | exact Thin.ref (.skip (.skip (h.th))) | exact Thin.ref (.skip (.skip (.skip (h.th)))) | exact Thin.ref (.skip (.skip (.skip (.skip (h.th))))) | exact ⟨rfl, oneAll_of rfl⟩ | exact oneAll_of rfl | exact rfl | exact ⟨rfl, rfl, rfl, rfl⟩ | exact ⟨rfl, rfl, rfl, rfl, rfl⟩ | exact ⟨by unfold maxLen; omega, by omega⟩ | omega) ?_ | intro _)); refine VC_can (t := tr_evergreenref12_Add_4) _ _ (by (repeat ((conv => whnf); refine And.intro (by first | exact rfl | exact vint_eq (by omega) | exact vint_eq (by (dsimp only; omega)) | exact vsl_eq (by omega) | exact vsl_eq (by first | (dsimp only; omega) | (simp; done) | (simp; omega))) ?_)); exact trivial) (Thin.ref (.own (by omega) rfl (.skip (.own (by omega) rfl (Thin.refl _))))) (add_4 h _ _ _ _)
  (repeat' ((conv => whnf); first | refine ⟨xs, h.rs _, ?_⟩ | refine ⟨ys, h.rl _, ?_⟩ | refine And.intro (by first | exact o1 | exact o2 | exact fun _ => Thin.ref (.skip (h.th)) | exact fun _ => Thin.ref (.skip (.skip (h.th))) | exact fun _ => Thin.ref (.skip (.skip (.skip (h.th)))) | exact fun _ => Thin.ref (.skip (.skip (.skip (.skip (h.th))))) | exact Thin.ref (.skip (h.th)) | exact Thin.ref (.skip (.skip (h.th))) | exact Thin.ref (.skip (.skip (.skip (h.th)))) | exact Thin.ref (.skip (.skip (.skip (.skip (h.th))))) | exact ⟨rfl, oneAll_of rfl⟩ | exact oneAll_of rfl | exact rfl | exact ⟨rfl, rfl, rfl, rfl⟩ | exact ⟨rfl, rfl, rfl, rfl, rfl⟩ | exact ⟨by unfold maxLen; omega, by omega⟩ | omega) ?_ | intro _)); refine VC_can (t := tr_evergreenref12_Add_7) _ _ (by (repeat ((conv => whnf); refine And.intro (by first | exact rfl | exact vint_eq (by omega) | exact vint_eq (by (dsimp only; omega)) | exact vsl_eq (by omega) | exact vsl_eq (by first | (dsimp only; omega) | (simp; done) | (simp; omega))) ?_)); exact trivial) ((Ref.perm (.trans (.swap _ _ _) (.trans (.cons _ (.swap _ _ _)) (.cons _ (.cons _ (.swap _ _ _)))))).trans (Thin.ref (.own (by omega) rfl (.own (by omega) rfl (.own (by omega) rfl (.own (by omega) rfl (Thin.refl _))))))) (add_7 h _ _ _ _ _ _)

theorem add_9 (h : AddH w K Lb Lh E r N a1 a2 c1 c2 b6 xs ys) : ∀ (q1 : Option Addr) (q2 : Nat) (q3 : Option Addr) (z3 : Option Addr), VT Try.prog w [] ops_evergreenref12_Add_6 K tr_evergreenref12_Add_9 Lb [(29, .sl 26 q1 E.length q2), (31, .sl 31 q3 1 1), (38, .sl 38 z3 1 1), (28, .v (.slice a1 E.length c1)), (30, .v (ruV r)), (35, .v (.slice a2 E.length c2)), (37, .v (.int .i64 N)), (44, .v (.int .i64 ((E.length : Int) + 1))), (6, .ptr 6 b6 0)] (.own 26 q1 E.length q2 ty_api_Rule 5 xs :: .own 31 q3 1 1 ty_api_Rule 5 (ruC r) :: .own 38 z3 1 1 ty_int 1 ([.int .i64 N]) :: Lh) := by
  have hE := h.hE
  have o1 := h.o1
  have o2 := h.o2
  intro q1 q2 q3 z3
  (conv => whnf)
  refine stop_and ?_ ?_
  · (repeat' ((conv => whnf); first | refine ⟨xs, h.rs _, ?_⟩ | refine ⟨ys, h.rl _, ?_⟩ | refine And.intro (by first | exact o1 | exact o2 | exact fun _ => Thin.ref (.skip (h.th)) | exact fun _ => Thin.ref (.skip (.skip (h.th))) | exact fun _ => Thin.ref (.skip (.skip (.skip (h.th)))) | exact fun _ => Thin.ref (.skip (.skip (.skip (.skip (h.th))))) | exact Thin.ref (.skip (h.th)) | exact Thin.ref (.skip (.skip (h.th))) | exact Thin.ref (.skip (.skip (.skip (h.th)))) | exact Thin.ref (.skip (.skip (.skip (.skip (h.th))))) | exact ⟨rfl, oneAll_of rfl⟩ | exact oneAll_of rfl | exact rfl | exact ⟨rfl, rfl, rfl, rfl⟩ | exact ⟨rfl, rfl, rfl, rfl, rfl⟩ | exact ⟨by unfold maxLen; omega, by omega⟩ | omega) ?_ | intro _)); refine VC_can (t := tr_evergreenref12_Add_5) _ _ (by (repeat ((conv => whnf); refine And.intro (by first | exact rfl | exact vint_eq (by omega) | exact vint_eq (by (dsimp only; omega)) | exact vsl_eq (by omega) | exact vsl_eq (by first | (dsimp only; omega) | (simp; done) | (simp; omega))) ?_)); exact trivial) (Thin.ref (.own (by omega) rfl (.skip (.own (by omega) rfl (Thin.refl _))))) (add_5 h _ _ _)
  (repeat' ((conv => whnf); first | refine ⟨xs, h.rs _, ?_⟩ | refine ⟨ys, h.rl _, ?_⟩ | refine And.intro (by first | exact o1 | exact o2 | exact fun _ => Thin.ref (.skip (h.th)) | exact fun _ => Thin.ref (.skip (.skip (h.th))) | exact fun _ => Thin.ref (.skip (.skip (.skip (h.th)))) | exact fun _ => Thin.ref (.skip (.skip (.skip (.skip (h.th))))) | exact Thin.ref (.skip (h.th)) | exact Thin.ref (.skip (.skip (h.th))) | exact Thin.ref (.skip (.skip (.skip (h.th)))) | exact Thin.ref (.skip (.skip (.skip (.skip (h.th))))) | exact ⟨rfl, oneAll_of rfl⟩ | exact oneAll_of rfl | exact rfl | exact ⟨rfl, rfl, rfl, rfl⟩ | exact ⟨rfl, rfl, rfl, rfl, rfl⟩ | exact ⟨by unfold maxLen; omega, by omega⟩ | omega) ?_ | intro _)); refine VC_can (t := tr_evergreenref12_Add_7) _ _ (by (repeat ((conv => whnf); refine And.intro (by first | exact rfl | exact vint_eq (by omega) | exact vint_eq (by (dsimp only; omega)) | exact vsl_eq (by omega) | exact vsl_eq (by first | (dsimp only; omega) | (simp; done) | (simp; omega))) ?_)); exact trivial) ((Ref.perm (.trans (.swap _ _ _) (.cons _ (.swap _ _ _)))).trans (Thin.ref (.own (by omega) rfl (.own (by omega) rfl (.own (by omega) rfl (.own (by omega) rfl (Thin.refl _))))))) (add_7 h _ _ _ _ _ _)

theorem add_10 (h : AddH w K Lb Lh E r N a1 a2 c1 c2 b6 xs ys) : ∀ (q1 : Option Addr) (q2 : Nat) (q3 : Option Addr), VT Try.prog w [] ops_evergreenref12_Add_6 K tr_evergreenref12_Add_10 Lb [(29, .sl 26 q1 E.length q2), (31, .sl 31 q3 1 1), (28, .v (.slice a1 E.length c1)), (30, .v (ruV r)), (35, .v (.slice a2 E.length c2)), (37, .v (.int .i64 N)), (44, .v (.int .i64 ((E.length : Int) + 1))), (6, .ptr 6 b6 0)] (.own 26 q1 E.length q2 ty_api_Rule 5 xs :: .own 31 q3 1 1 ty_api_Rule 5 (ruC r) :: Lh) := by
  have hE := h.hE
  have o1 := h.o1
  have o2 := h.o2
  intro q1 q2 q3
  (conv => whnf)
  refine stop_and ?_ ?_
  · (repeat' ((conv => whnf); first | refine ⟨xs, h.rs _, ?_⟩ | refine ⟨ys, h.rl _, ?_⟩ | refine And.intro (by first | exact o1 | exact o2 | exact fun _ => Thin.ref (.skip (h.th)) | exact fun _ => Thin.ref (.skip (.skip (h.th))) | exact fun _ => Thin.ref (.skip (.skip (.skip (h.th)))) | exact fun _ => Thin.ref (.skip (.skip (.skip (.skip (h.th))))) | exact Thin.ref (.skip (h.th)) | exact Thin.ref (.skip (.skip (h.th))) | exact Thin.ref (.skip (.skip (.skip (h.th)))) | exact Thin.ref (.skip (.skip (.skip (.skip (h.th))))) | exact ⟨rfl, oneAll_of rfl⟩ | exact oneAll_of rfl | exact rfl | exact ⟨rfl, rfl, rfl, rfl⟩ | exact ⟨rfl, rfl, rfl, rfl, rfl⟩ | exact ⟨by unfold maxLen; omega, by omega⟩ | omega) ?_ | intro _)); refine VC_can (t := tr_evergreenref12_Add_6) _ _ (by (repeat ((conv => whnf); refine And.intro (by first | exact rfl | exact vint_eq (by omega) | exact vint_eq (by (dsimp only; omega)) | exact vsl_eq (by omega) | exact vsl_eq (by first | (dsimp only; omega) | (simp; done) | (simp; omega))) ?_)); exact trivial) (Thin.ref (.own (by omega) rfl (.skip (Thin.refl _)))) (add_6 h _ _)
  (conv => whnf)
  refine stop_and ?_ ?_
  · (repeat' ((conv => whnf); first | refine ⟨xs, h.rs _, ?_⟩ | refine ⟨ys, h.rl _, ?_⟩ | refine And.intro (by first | exact o1 | exact o2 | exact fun _ => Thin.ref (.skip (h.th)) | exact fun _ => Thin.ref (.skip (.skip (h.th))) | exact fun _ => Thin.ref (.skip (.skip (.skip (h.th)))) | exact fun _ => Thin.ref (.skip (.skip (.skip (.skip (h.th))))) | exact Thin.ref (.skip (h.th)) | exact Thin.ref (.skip (.skip (h.th))) | exact Thin.ref (.skip (.skip (.skip (h.th)))) | exact Thin.ref (.skip (.skip (.skip (.skip (h.th))))) | exact ⟨rfl, oneAll_of rfl⟩ | exact oneAll_of rfl | exact rfl | exact ⟨rfl, rfl, rfl, rfl⟩ | exact ⟨rfl, rfl, rfl, rfl, rfl⟩ | exact ⟨by unfold maxLen; omega, by omega⟩ | omega) ?_ | intro _)); refine VC_can (t := tr_evergreenref12_Add_8) _ _ (by (repeat ((conv => whnf); refine And.intro (by first | exact rfl | exact vint_eq (by omega) | exact vint_eq (by (dsimp only; omega)) | exact vsl_eq (by omega) | exact vsl_eq (by first | (dsimp only; omega) | (simp; done) | (simp; omega))) ?_)); exact trivial) ((Ref.perm (.trans (.swap _ _ _) (.cons _ (.swap _ _ _)))).trans (Thin.ref (.own (by omega) rfl (.own (by omega) rfl (.own (by omega) rfl (Thin.refl _)))))) (add_8 h _ _ _ _ _)
  (repeat' ((conv => whnf); first | refine ⟨xs, h.rs _, ?_⟩ | refine ⟨ys, h.rl _, ?_⟩ | refine And.intro (by first | exact o1 | exact o2 | exact fun _ => Thin.ref (.skip (h.th)) | exact fun _ => Thin.ref (.skip (.skip (h.th))) | exact fun _ => Thin.ref (.skip (.skip (.skip (h.th)))) | exact fun _ => Thin.ref (.skip (.skip (.skip (.skip (h.th))))) | exact Thin.ref (.skip (h.th)) | exact Thin.ref (.skip (.skip (h.th))) | exact Thin.ref (.skip (.skip (.skip (h.th)))) | exact Thin.ref (.skip (.skip (.skip (.skip (h.th))))) | exact ⟨rfl, oneAll_of rfl⟩ | exact oneAll_of rfl | exact rfl | exact ⟨rfl, rfl, rfl, rfl⟩ | exact ⟨rfl, rfl, rfl, rfl, rfl⟩ | exact ⟨by unfold maxLen; omega, by omega⟩ | omega) ?_ | intro _)); refine VC_can (t := tr_evergreenref12_Add_9) _ _ (by (repeat ((conv => whnf); refine And.intro (by first | exact rfl | exact vint_eq (by omega) | exact vint_eq (by (dsimp only; omega)) | exact vsl_eq (by omega) | exact vsl_eq (by first | (dsimp only; omega) | (simp; done) | (simp; omega))) ?_)); exact trivial) ((Ref.perm (.trans (.swap _ _ _) (.cons _ (.swap _ _ _)))).trans (Thin.ref (.own (by omega) rfl (.own (by omega) rfl (.own (by omega) rfl (Thin.refl _)))))) (add_9 h _ _ _ _)

theorem add_11 (h : AddH w K Lb Lh E r N a1 a2 c1 c2 b6 xs ys) : ∀ (q1 : Option Addr) (q2 : Nat) (z1 : Option Addr) (z2 : Nat) (z3 : Option Addr), VT Try.prog w [] ops_evergreenref12_Add_6 K tr_evergreenref12_Add_11 Lb [(29, .sl 26 q1 E.length q2), (33, .sl 33 z1 0 z2), (38, .sl 38 z3 1 1), (28, .v (.slice a1 E.length c1)), (30, .v (ruV r)), (35, .v (.slice a2 E.length c2)), (37, .v (.int .i64 N)), (44, .v (.int .i64 ((E.length : Int) + 1))), (6, .ptr 6 b6 0)] (.own 26 q1 E.length q2 ty_api_Rule 5 xs :: .own 33 z1 0 z2 ty_int 1 [] :: .own 38 z3 1 1 ty_int 1 ([.int .i64 N]) :: Lh) := by
  have hE := h.hE
  have o1 := h.o1
  have o2 := h.o2
  intro q1 q2 z1 z2 z3
  (repeat' ((conv => whnf); first | refine ⟨xs, h.rs _, ?_⟩ | refine ⟨ys, h.rl _, ?_⟩ | refine And.intro (by first | exact o1 | exact o2 | exact fun _ => Thin.ref (.skip (h.th)) | exact fun _ => Thin.ref (.skip (.skip (h.th))) | exact fun _ => Thin.ref (.skip (.skip (.skip (h.th)))) | exact fun _ => Thin.ref (.skip (.skip (.skip (.skip (h.th))))) | exact Thin.ref (.skip (h.th)) | exact Thin.ref (.skip (.skip (h.th))) | exact Thin.ref (.skip (.skip (.skip (h.th)))) | exact Thin.ref (.skip (.skip (.skip (.skip (h.th))))) | exact ⟨rfl, oneAll_of rfl⟩ | exact oneAll_of rfl | exact rfl | exact ⟨rfl, rfl, rfl, rfl⟩ | exact ⟨rfl, rfl, rfl, rfl, rfl⟩ | exact ⟨by unfold maxLen; omega, by omega⟩ | omega) ?_ | intro _)); refine VC_can (t := tr_evergreenref12_Add_7) _ _ (by (repeat ((conv => whnf); refine And.intro (by first | exact rfl | exact vint_eq (by omega) | exact vint_eq (by (dsimp only; omega)) | exact vsl_eq (by omega) | exact vsl_eq (by first | (dsimp only; omega) | (simp; done) | (simp; omega))) ?_)); exact trivial) ((Ref.perm (.swap _ _ _)).trans (Thin.ref (.own (by omega) rfl (.own (by omega) rfl (.own (by omega) rfl (.own (by omega) rfl (Thin.refl _))))))) (add_7 h _ _ _ _ _ _)

theorem add_12 (h : AddH w K Lb Lh E r N a1 a2 c1 c2 b6 xs ys) : ∀ (q1 : Option Addr) (q2 : Nat) (z1 : Option Addr) (z2 : Nat), VT Try.prog w [] ops_evergreenref12_Add_6 K tr_evergreenref12_Add_12 Lb [(29, .sl 26 q1 E.length q2), (33, .sl 33 z1 0 z2), (28, .v (.slice a1 E.length c1)), (30, .v (ruV r)), (35, .v (.slice a2 E.length c2)), (37, .v (.int .i64 N)), (44, .v (.int .i64 ((E.length : Int) + 1))), (6, .ptr 6 b6 0)] (.own 26 q1 E.length q2 ty_api_Rule 5 xs :: .own 33 z1 0 z2 ty_int 1 [] :: Lh) := by
  have hE := h.hE
  have o1 := h.o1
  have o2 := h.o2
  intro q1 q2 z1 z2
  (conv => whnf)
  refine stop_and ?_ ?_
  · (repeat' ((conv => whnf); first | refine ⟨xs, h.rs _, ?_⟩ | refine ⟨ys, h.rl _, ?_⟩ | refine And.intro (by first | exact o1 | exact o2 | exact fun _ => Thin.ref (.skip (h.th)) | exact fun _ => Thin.ref (.skip (.skip (h.th))) | exact fun _ => Thin.ref (.skip (.skip (.skip (h.th)))) | exact fun _ => Thin.ref (.skip (.skip (.skip (.skip (h.th))))) | exact Thin.ref (.skip (h.th)) | exact Thin.ref (.skip (.skip (h.th))) | exact Thin.ref (.skip (.skip (.skip (h.th)))) | exact Thin.ref (.skip (.skip (.skip (.skip (h.th))))) | exact ⟨rfl, oneAll_of rfl⟩ | exact oneAll_of rfl | exact rfl | exact ⟨rfl, rfl, rfl, rfl⟩ | exact ⟨rfl, rfl, rfl, rfl, rfl⟩ | exact ⟨by unfold maxLen; omega, by omega⟩ | omega) ?_ | intro _)); refine VC_can (t := tr_evergreenref12_Add_8) _ _ (by (repeat ((conv => whnf); refine And.intro (by first | exact rfl | exact vint_eq (by omega) | exact vint_eq (by (dsimp only; omega)) | exact vsl_eq (by omega) | exact vsl_eq (by first | (dsimp only; omega) | (simp; done) | (simp; omega))) ?_)); exact trivial) ((Ref.perm (.swap _ _ _)).trans (Thin.ref (.own (by omega) rfl (.own (by omega) rfl (.own (by omega) rfl (Thin.refl _)))))) (add_8 h _ _ _ _ _)
  (repeat' ((conv => whnf); first | refine ⟨xs, h.rs _, ?_⟩ | refine ⟨ys, h.rl _, ?_⟩ | refine And.intro (by first | exact o1 | exact o2 | exact fun _ => Thin.ref (.skip (h.th)) | exact fun _ => Thin.ref (.skip (.skip (h.th))) | exact fun _ => Thin.ref (.skip (.skip (.skip (h.th)))) | exact fun _ => Thin.ref (.skip (.skip (.skip (.skip (h.th))))) | exact Thin.ref (.skip (h.th)) | exact Thin.ref (.skip (.skip (h.th))) | exact Thin.ref (.skip (.skip (.skip (h.th)))) | exact Thin.ref (.skip (.skip (.skip (.skip (h.th))))) | exact ⟨rfl, oneAll_of rfl⟩ | exact oneAll_of rfl | exact rfl | exact ⟨rfl, rfl, rfl, rfl⟩ | exact ⟨rfl, rfl, rfl, rfl, rfl⟩ | exact ⟨by unfold maxLen; omega, by omega⟩ | omega) ?_ | intro _)); refine VC_can (t := tr_evergreenref12_Add_11) _ _ (by (repeat ((conv => whnf); refine And.intro (by first | exact rfl | exact vint_eq (by omega) | exact vint_eq (by (dsimp only; omega)) | exact vsl_eq (by omega) | exact vsl_eq (by first | (dsimp only; omega) | (simp; done) | (simp; omega))) ?_)); exact trivial) ((Ref.perm (.trans (.swap _ _ _) (.cons _ (.swap _ _ _)))).trans (Thin.ref (.own (by omega) rfl (.own (by omega) rfl (.own (by omega) rfl (Thin.refl _)))))) (add_11 h _ _ _ _ _)

theorem add_13 (h : AddH w K Lb Lh E r N a1 a2 c1 c2 b6 xs ys) : ∀ (q1 : Option Addr) (q2 : Nat) (z3 : Option Addr), VT Try.prog w [] ops_evergreenref12_Add_6 K tr_evergreenref12_Add_13 Lb [(29, .sl 26 q1 E.length q2), (38, .sl 38 z3 1 1), (28, .v (.slice a1 E.length c1)), (30, .v (ruV r)), (35, .v (.slice a2 E.length c2)), (37, .v (.int .i64 N)), (44, .v (.int .i64 ((E.length : Int) + 1))), (6, .ptr 6 b6 0)] (.own 26 q1 E.length q2 ty_api_Rule 5 xs :: .own 38 z3 1 1 ty_int 1 ([.int .i64 N]) :: Lh) := by
  have hE := h.hE
  have o1 := h.o1
  have o2 := h.o2
  intro q1 q2 z3
  (conv => whnf)
  refine stop_and ?_ ?_
  · (repeat' ((conv => whnf); first | refine ⟨xs, h.rs _, ?_⟩ | refine ⟨ys, h.rl _, ?_⟩ | refine And.intro (by first | exact o1 | exact o2 | exact fun _ => Thin.ref (.skip (h.th)) | exact fun _ => Thin.ref (.skip (.skip (h.th))) | exact fun _ => Thin.ref (.skip (.skip (.skip (h.th)))) | exact fun _ => Thin.ref (.skip (.skip (.skip (.skip (h.th))))) | exact Thin.ref (.skip (h.th)) | exact Thin.ref (.skip (.skip (h.th))) | exact Thin.ref (.skip (.skip (.skip (h.th)))) | exact Thin.ref (.skip (.skip (.skip (.skip (h.th))))) | exact ⟨rfl, oneAll_of rfl⟩ | exact oneAll_of rfl | exact rfl | exact ⟨rfl, rfl, rfl, rfl⟩ | exact ⟨rfl, rfl, rfl, rfl, rfl⟩ | exact ⟨by unfold maxLen; omega, by omega⟩ | omega) ?_ | intro _)); refine VC_can (t := tr_evergreenref12_Add_9) _ _ (by (repeat ((conv => whnf); refine And.intro (by first | exact rfl | exact vint_eq (by omega) | exact vint_eq (by (dsimp only; omega)) | exact vsl_eq (by omega) | exact vsl_eq (by first | (dsimp only; omega) | (simp; done) | (simp; omega))) ?_)); exact trivial) ((Ref.perm (.swap _ _ _)).trans (Thin.ref (.own (by omega) rfl (.own (by omega) rfl (.own (by omega) rfl (Thin.refl _)))))) (add_9 h _ _ _ _)
  (repeat' ((conv => whnf); first | refine ⟨xs, h.rs _, ?_⟩ | refine ⟨ys, h.rl _, ?_⟩ | refine And.intro (by first | exact o1 | exact o2 | exact fun _ => Thin.ref (.skip (h.th)) | exact fun _ => Thin.ref (.skip (.skip (h.th))) | exact fun _ => Thin.ref (.skip (.skip (.skip (h.th)))) | exact fun _ => Thin.ref (.skip (.skip (.skip (.skip (h.th))))) | exact Thin.ref (.skip (h.th)) | exact Thin.ref (.skip (.skip (h.th))) | exact Thin.ref (.skip (.skip (.skip (h.th)))) | exact Thin.ref (.skip (.skip (.skip (.skip (h.th))))) | exact ⟨rfl, oneAll_of rfl⟩ | exact oneAll_of rfl | exact rfl | exact ⟨rfl, rfl, rfl, rfl⟩ | exact ⟨rfl, rfl, rfl, rfl, rfl⟩ | exact ⟨by unfold maxLen; omega, by omega⟩ | omega) ?_ | intro _)); refine VC_can (t := tr_evergreenref12_Add_11) _ _ (by (repeat ((conv => whnf); refine And.intro (by first | exact rfl | exact vint_eq (by omega) | exact vint_eq (by (dsimp only; omega)) | exact vsl_eq (by omega) | exact vsl_eq (by first | (dsimp only; omega) | (simp; done) | (simp; omega))) ?_)); exact trivial) ((Ref.perm (.swap _ _ _)).trans (Thin.ref (.own (by omega) rfl (.own (by omega) rfl (.own (by omega) rfl (Thin.refl _)))))) (add_11 h _ _ _ _ _)

theorem add_14 (h : AddH w K Lb Lh E r N a1 a2 c1 c2 b6 xs ys) : ∀ (q1 : Option Addr) (q2 : Nat), VT Try.prog w [] ops_evergreenref12_Add_6 K tr_evergreenref12_Add_14 Lb [(29, .sl 26 q1 E.length q2), (28, .v (.slice a1 E.length c1)), (30, .v (ruV r)), (35, .v (.slice a2 E.length c2)), (37, .v (.int .i64 N)), (44, .v (.int .i64 ((E.length : Int) + 1))), (6, .ptr 6 b6 0)] (.own 26 q1 E.length q2 ty_api_Rule 5 xs :: Lh) := by
  have hE := h.hE
  have o1 := h.o1
  have o2 := h.o2
  intro q1 q2
  (conv => whnf)
  refine stop_and ?_ ?_
  · (repeat' ((conv => whnf); first | refine ⟨xs, h.rs _, ?_⟩ | refine ⟨ys, h.rl _, ?_⟩ | refine And.intro (by first | exact o1 | exact o2 | exact fun _ => Thin.ref (.skip (h.th)) | exact fun _ => Thin.ref (.skip (.skip (h.th))) | exact fun _ => Thin.ref (.skip (.skip (.skip (h.th)))) | exact fun _ => Thin.ref (.skip (.skip (.skip (.skip (h.th))))) | exact Thin.ref (.skip (h.th)) | exact Thin.ref (.skip (.skip (h.th))) | exact Thin.ref (.skip (.skip (.skip (h.th)))) | exact Thin.ref (.skip (.skip (.skip (.skip (h.th))))) | exact ⟨rfl, oneAll_of rfl⟩ | exact oneAll_of rfl | exact rfl | exact ⟨rfl, rfl, rfl, rfl⟩ | exact ⟨rfl, rfl, rfl, rfl, rfl⟩ | exact ⟨by unfold maxLen; omega, by omega⟩ | omega) ?_ | intro _)); refine VC_can (t := tr_evergreenref12_Add_10) _ _ (by (repeat ((conv => whnf); refine And.intro (by first | exact rfl | exact vint_eq (by omega) | exact vint_eq (by (dsimp only; omega)) | exact vsl_eq (by omega) | exact vsl_eq (by first | (dsimp only; omega) | (simp; done) | (simp; omega))) ?_)); exact trivial) ((Ref.perm (.swap _ _ _)).trans (Thin.ref (.own (by omega) rfl (.own (by omega) rfl (Thin.refl _))))) (add_10 h _ _ _)
  (conv => whnf)
  refine stop_and ?_ ?_
  · (repeat' ((conv => whnf); first | refine ⟨xs, h.rs _, ?_⟩ | refine ⟨ys, h.rl _, ?_⟩ | refine And.intro (by first | exact o1 | exact o2 | exact fun _ => Thin.ref (.skip (h.th)) | exact fun _ => Thin.ref (.skip (.skip (h.th))) | exact fun _ => Thin.ref (.skip (.skip (.skip (h.th)))) | exact fun _ => Thin.ref (.skip (.skip (.skip (.skip (h.th))))) | exact Thin.ref (.skip (h.th)) | exact Thin.ref (.skip (.skip (h.th))) | exact Thin.ref (.skip (.skip (.skip (h.th)))) | exact Thin.ref (.skip (.skip (.skip (.skip (h.th))))) | exact ⟨rfl, oneAll_of rfl⟩ | exact oneAll_of rfl | exact rfl | exact ⟨rfl, rfl, rfl, rfl⟩ | exact ⟨rfl, rfl, rfl, rfl, rfl⟩ | exact ⟨by unfold maxLen; omega, by omega⟩ | omega) ?_ | intro _)); refine VC_can (t := tr_evergreenref12_Add_12) _ _ (by (repeat ((conv => whnf); refine And.intro (by first | exact rfl | exact vint_eq (by omega) | exact vint_eq (by (dsimp only; omega)) | exact vsl_eq (by omega) | exact vsl_eq (by first | (dsimp only; omega) | (simp; done) | (simp; omega))) ?_)); exact trivial) ((Ref.perm (.swap _ _ _)).trans (Thin.ref (.own (by omega) rfl (.own (by omega) rfl (Thin.refl _))))) (add_12 h _ _ _ _)
  (repeat' ((conv => whnf); first | refine ⟨xs, h.rs _, ?_⟩ | refine ⟨ys, h.rl _, ?_⟩ | refine And.intro (by first | exact o1 | exact o2 | exact fun _ => Thin.ref (.skip (h.th)) | exact fun _ => Thin.ref (.skip (.skip (h.th))) | exact fun _ => Thin.ref (.skip (.skip (.skip (h.th)))) | exact fun _ => Thin.ref (.skip (.skip (.skip (.skip (h.th))))) | exact Thin.ref (.skip (h.th)) | exact Thin.ref (.skip (.skip (h.th))) | exact Thin.ref (.skip (.skip (.skip (h.th)))) | exact Thin.ref (.skip (.skip (.skip (.skip (h.th))))) | exact ⟨rfl, oneAll_of rfl⟩ | exact oneAll_of rfl | exact rfl | exact ⟨rfl, rfl, rfl, rfl⟩ | exact ⟨rfl, rfl, rfl, rfl, rfl⟩ | exact ⟨by unfold maxLen; omega, by omega⟩ | omega) ?_ | intro _)); refine VC_can (t := tr_evergreenref12_Add_13) _ _ (by (repeat ((conv => whnf); refine And.intro (by first | exact rfl | exact vint_eq (by omega) | exact vint_eq (by (dsimp only; omega)) | exact vsl_eq (by omega) | exact vsl_eq (by first | (dsimp only; omega) | (simp; done) | (simp; omega))) ?_)); exact trivial) ((Ref.perm (.swap _ _ _)).trans (Thin.ref (.own (by omega) rfl (.own (by omega) rfl (Thin.refl _))))) (add_13 h _ _ _)

theorem add_15 (h : AddH w K Lb Lh E r N a1 a2 c1 c2 b6 xs ys) : ∀ (q1 : Option Addr) (q2 : Nat) (q3 : Option Addr) (z1 : Option Addr) (z2 : Nat) (z3 : Option Addr), VT Try.prog w [] ops_evergreenref12_Add_6 K tr_evergreenref12_Add_15 Lb [(26, .sl 26 q1 0 q2), (31, .sl 31 q3 1 1), (33, .sl 33 z1 0 z2), (38, .sl 38 z3 1 1), (28, .v (.slice a1 E.length c1)), (30, .v (ruV r)), (35, .v (.slice a2 E.length c2)), (37, .v (.int .i64 N)), (44, .v (.int .i64 ((E.length : Int) + 1))), (6, .ptr 6 b6 0)] (.own 26 q1 0 q2 ty_api_Rule 5 [] :: .own 31 q3 1 1 ty_api_Rule 5 (ruC r) :: .own 33 z1 0 z2 ty_int 1 [] :: .own 38 z3 1 1 ty_int 1 ([.int .i64 N]) :: Lh) := by
  have hE := h.hE
  have o1 := h.o1
  have o2 := h.o2
  intro q1 q2 q3 z1 z2 z3
  (repeat' ((conv => whnf); first | refine ⟨xs, h.rs _, ?_⟩ | refine ⟨ys, h.rl _, ?_⟩ | refine And.intro (by first | exact o1 | exact o2 | exact fun _ => Thin.ref (.skip (h.th)) | exact fun _ => Thin.ref (.skip (.skip (h.th))) | exact fun _ => Thin.ref (.skip (.skip (.skip (h.th)))) | exact fun _ => Thin.ref (.skip (.skip (.skip (.skip (h.th))))) | exact Thin.ref (.skip (h.th)) | exact Thin.ref (.skip (.skip (h.th))) | exact Thin.ref (.skip (.skip (.skip (h.th)))) | exact Thin.ref (.skip (.skip (.skip (.skip (h.th))))) | exact ⟨rfl, oneAll_of rfl⟩ | exact oneAll_of rfl | exact rfl | exact ⟨rfl, rfl, rfl, rfl⟩ | exact ⟨rfl, rfl, rfl, rfl, rfl⟩ | exact ⟨by unfold maxLen; omega, by omega⟩ | omega) ?_ | intro _)); refine VC_can (t := tr_evergreenref12_Add_7) _ _ (by (repeat ((conv => whnf); refine And.intro (by first | exact rfl | exact vint_eq (by omega) | exact vint_eq (by (dsimp only; omega)) | exact vsl_eq (by omega) | exact vsl_eq (by first | (dsimp only; omega) | (simp; done) | (simp; omega))) ?_)); exact trivial) (Thin.ref (.own (by omega) rfl (.own (by omega) rfl (.own (by omega) rfl (.own (by omega) rfl (Thin.refl _)))))) (add_7 h _ _ _ _ _ _)

theorem add_16 (h : AddH w K Lb Lh E r N a1 a2 c1 c2 b6 xs ys) : ∀ (q1 : Option Addr) (q2 : Nat) (q3 : Option Addr) (z1 : Option Addr) (z2 : Nat), VT Try.prog w [] ops_evergreenref12_Add_6 K tr_evergreenref12_Add_16 Lb [(26, .sl 26 q1 0 q2), (31, .sl 31 q3 1 1), (33, .sl 33 z1 0 z2), (28, .v (.slice a1 E.length c1)), (30, .v (ruV r)), (35, .v (.slice a2 E.length c2)), (37, .v (.int .i64 N)), (44, .v (.int .i64 ((E.length : Int) + 1))), (6, .ptr 6 b6 0)] (.own 26 q1 0 q2 ty_api_Rule 5 [] :: .own 31 q3 1 1 ty_api_Rule 5 (ruC r) :: .own 33 z1 0 z2 ty_int 1 [] :: Lh) := by
  have hE := h.hE
  have o1 := h.o1
  have o2 := h.o2
  intro q1 q2 q3 z1 z2
  (conv => whnf)
  refine stop_and ?_ ?_
  · (repeat' ((conv => whnf); first | refine ⟨xs, h.rs _, ?_⟩ | refine ⟨ys, h.rl _, ?_⟩ | refine And.intro (by first | exact o1 | exact o2 | exact fun _ => Thin.ref (.skip (h.th)) | exact fun _ => Thin.ref (.skip (.skip (h.th))) | exact fun _ => Thin.ref (.skip (.skip (.skip (h.th)))) | exact fun _ => Thin.ref (.skip (.skip (.skip (.skip (h.th))))) | exact Thin.ref (.skip (h.th)) | exact Thin.ref (.skip (.skip (h.th))) | exact Thin.ref (.skip (.skip (.skip (h.th)))) | exact Thin.ref (.skip (.skip (.skip (.skip (h.th))))) | exact ⟨rfl, oneAll_of rfl⟩ | exact oneAll_of rfl | exact rfl | exact ⟨rfl, rfl, rfl, rfl⟩ | exact ⟨rfl, rfl, rfl, rfl, rfl⟩ | exact ⟨by unfold maxLen; omega, by omega⟩ | omega) ?_ | intro _)); refine VC_can (t := tr_evergreenref12_Add_8) _ _ (by (repeat ((conv => whnf); refine And.intro (by first | exact rfl | exact vint_eq (by omega) | exact vint_eq (by (dsimp only; omega)) | exact vsl_eq (by omega) | exact vsl_eq (by first | (dsimp only; omega) | (simp; done) | (simp; omega))) ?_)); exact trivial) (Thin.ref (.own (by omega) rfl (.own (by omega) rfl (.own (by omega) rfl (Thin.refl _))))) (add_8 h _ _ _ _ _)
  (repeat' ((conv => whnf); first | refine ⟨xs, h.rs _, ?_⟩ | refine ⟨ys, h.rl _, ?_⟩ | refine And.intro (by first | exact o1 | exact o2 | exact fun _ => Thin.ref (.skip (h.th)) | exact fun _ => Thin.ref (.skip (.skip (h.th))) | exact fun _ => Thin.ref (.skip (.skip (.skip (h.th)))) | exact fun _ => Thin.ref (.skip (.skip (.skip (.skip (h.th))))) | exact Thin.ref (.skip (h.th)) | exact Thin.ref (.skip (.skip (h.th))) | exact Thin.ref (.skip (.skip (.skip (h.th)))) | exact Thin.ref (.skip (.skip (.skip (.skip (h.th))))) | exact ⟨rfl, oneAll_of rfl⟩ | exact oneAll_of rfl | exact rfl | exact ⟨rfl, rfl, rfl, rfl⟩ | exact ⟨rfl, rfl, rfl, rfl, rfl⟩ | exact ⟨by unfold maxLen; omega, by omega⟩ | omega) ?_ | intro _)); refine VC_can (t := tr_evergreenref12_Add_15) _ _ (by (repeat ((conv => whnf); refine And.intro (by first | exact rfl | exact vint_eq (by omega) | exact vint_eq (by (dsimp only; omega)) | exact vsl_eq (by omega) | exact vsl_eq (by first | (dsimp only; omega) | (simp; done) | (simp; omega))) ?_)); exact trivial) ((Ref.perm (.trans (.swap _ _ _) (.trans (.cons _ (.swap _ _ _)) (.cons _ (.cons _ (.swap _ _ _)))))).trans (Thin.ref (.own (by omega) rfl (.own (by omega) rfl (.own (by omega) rfl (.own (by omega) rfl (Thin.refl _))))))) (add_15 h _ _ _ _ _ _)

theorem add_17 (h : AddH w K Lb Lh E r N a1 a2 c1 c2 b6 xs ys) : ∀ (q1 : Option Addr) (q2 : Nat) (q3 : Option Addr) (z3 : Option Addr), VT Try.prog w [] ops_evergreenref12_Add_6 K tr_evergreenref12_Add_17 Lb [(26, .sl 26 q1 0 q2), (31, .sl 31 q3 1 1), (38, .sl 38 z3 1 1), (28, .v (.slice a1 E.length c1)), (30, .v (ruV r)), (35, .v (.slice a2 E.length c2)), (37, .v (.int .i64 N)), (44, .v (.int .i64 ((E.length : Int) + 1))), (6, .ptr 6 b6 0)] (.own 26 q1 0 q2 ty_api_Rule 5 [] :: .own 31 q3 1 1 ty_api_Rule 5 (ruC r) :: .own 38 z3 1 1 ty_int 1 ([.int .i64 N]) :: Lh) := by
  have hE := h.hE
  have o1 := h.o1
  have o2 := h.o2
  intro q1 q2 q3 z3
  (conv => whnf)
  refine stop_and ?_ ?_
  · (repeat' ((conv => whnf); first | refine ⟨xs, h.rs _, ?_⟩ | refine ⟨ys, h.rl _, ?_⟩ | refine And.intro (by first | exact o1 | exact o2 | exact fun _ => Thin.ref (.skip (h.th)) | exact fun _ => Thin.ref (.skip (.skip (h.th))) | exact fun _ => Thin.ref (.skip (.skip (.skip (h.th)))) | exact fun _ => Thin.ref (.skip (.skip (.skip (.skip (h.th))))) | exact Thin.ref (.skip (h.th)) | exact Thin.ref (.skip (.skip (h.th))) | exact Thin.ref (.skip (.skip (.skip (h.th)))) | exact Thin.ref (.skip (.skip (.skip (.skip (h.th))))) | exact ⟨rfl, oneAll_of rfl⟩ | exact oneAll_of rfl | exact rfl | exact ⟨rfl, rfl, rfl, rfl⟩ | exact ⟨rfl, rfl, rfl, rfl, rfl⟩ | exact ⟨by unfold maxLen; omega, by omega⟩ | omega) ?_ | intro _)); refine VC_can (t := tr_evergreenref12_Add_9) _ _ (by (repeat ((conv => whnf); refine And.intro (by first | exact rfl | exact vint_eq (by omega) | exact vint_eq (by (dsimp only; omega)) | exact vsl_eq (by omega) | exact vsl_eq (by first | (dsimp only; omega) | (simp; done) | (simp; omega))) ?_)); exact trivial) (Thin.ref (.own (by omega) rfl (.own (by omega) rfl (.own (by omega) rfl (Thin.refl _))))) (add_9 h _ _ _ _)
  (repeat' ((conv => whnf); first | refine ⟨xs, h.rs _, ?_⟩ | refine ⟨ys, h.rl _, ?_⟩ | refine And.intro (by first | exact o1 | exact o2 | exact fun _ => Thin.ref (.skip (h.th)) | exact fun _ => Thin.ref (.skip (.skip (h.th))) | exact fun _ => Thin.ref (.skip (.skip (.skip (h.th)))) | exact fun _ => Thin.ref (.skip (.skip (.skip (.skip (h.th))))) | exact Thin.ref (.skip (h.th)) | exact Thin.ref (.skip (.skip (h.th))) | exact Thin.ref (.skip (.skip (.skip (h.th)))) | exact Thin.ref (.skip (.skip (.skip (.skip (h.th))))) | exact ⟨rfl, oneAll_of rfl⟩ | exact oneAll_of rfl | exact rfl | exact ⟨rfl, rfl, rfl, rfl⟩ | exact ⟨rfl, rfl, rfl, rfl, rfl⟩ | exact ⟨by unfold maxLen; omega, by omega⟩ | omega) ?_ | intro _)); refine VC_can (t := tr_evergreenref12_Add_15) _ _ (by (repeat ((conv => whnf); refine And.intro (by first | exact rfl | exact vint_eq (by omega) | exact vint_eq (by (dsimp only; omega)) | exact vsl_eq (by omega) | exact vsl_eq (by first | (dsimp only; omega) | (simp; done) | (simp; omega))) ?_)); exact trivial) ((Ref.perm (.trans (.swap _ _ _) (.cons _ (.swap _ _ _)))).trans (Thin.ref (.own (by omega) rfl (.own (by omega) rfl (.own (by omega) rfl (.own (by omega) rfl (Thin.refl _))))))) (add_15 h _ _ _ _ _ _)

theorem add_18 (h : AddH w K Lb Lh E r N a1 a2 c1 c2 b6 xs ys) : ∀ (q1 : Option Addr) (q2 : Nat) (q3 : Option Addr), VT Try.prog w [] ops_evergreenref12_Add_6 K tr_evergreenref12_Add_18 Lb [(26, .sl 26 q1 0 q2), (31, .sl 31 q3 1 1), (28, .v (.slice a1 E.length c1)), (30, .v (ruV r)), (35, .v (.slice a2 E.length c2)), (37, .v (.int .i64 N)), (44, .v (.int .i64 ((E.length : Int) + 1))), (6, .ptr 6 b6 0)] (.own 26 q1 0 q2 ty_api_Rule 5 [] :: .own 31 q3 1 1 ty_api_Rule 5 (ruC r) :: Lh) := by
  have hE := h.hE
  have o1 := h.o1
  have o2 := h.o2
  intro q1 q2 q3
  (conv => whnf)
  refine stop_and ?_ ?_
  · (repeat' ((conv => whnf); first | refine ⟨xs, h.rs _, ?_⟩ | refine ⟨ys, h.rl _, ?_⟩ | refine And.intro (by first | exact o1 | exact o2 | exact fun _ => Thin.ref (.skip (h.th)) | exact fun _ => Thin.ref (.skip (.skip (h.th))) | exact fun _ => Thin.ref (.skip (.skip (.skip (h.th)))) | exact fun _ => Thin.ref (.skip (.skip (.skip (.skip (h.th))))) | exact Thin.ref (.skip (h.th)) | exact Thin.ref (.skip (.skip (h.th))) | exact Thin.ref (.skip (.skip (.skip (h.th)))) | exact Thin.ref (.skip (.skip (.skip (.skip (h.th))))) | exact ⟨rfl, oneAll_of rfl⟩ | exact oneAll_of rfl | exact rfl | exact ⟨rfl, rfl, rfl, rfl⟩ | exact ⟨rfl, rfl, rfl, rfl, rfl⟩ | exact ⟨by unfold maxLen; omega, by omega⟩ | omega) ?_ | intro _)); refine VC_can (t := tr_evergreenref12_Add_10) _ _ (by (repeat ((conv => whnf); refine And.intro (by first | exact rfl | exact vint_eq (by omega) | exact vint_eq (by (dsimp only; omega)) | exact vsl_eq (by omega) | exact vsl_eq (by first | (dsimp only; omega) | (simp; done) | (simp; omega))) ?_)); exact trivial) (Thin.ref (.own (by omega) rfl (.own (by omega) rfl (Thin.refl _)))) (add_10 h _ _ _)
  (conv => whnf)
  refine stop_and ?_ ?_
  · (repeat' ((conv => whnf); first | refine ⟨xs, h.rs _, ?_⟩ | refine ⟨ys, h.rl _, ?_⟩ | refine And.intro (by first | exact o1 | exact o2 | exact fun _ => Thin.ref (.skip (h.th)) | exact fun _ => Thin.ref (.skip (.skip (h.th))) | exact fun _ => Thin.ref (.skip (.skip (.skip (h.th)))) | exact fun _ => Thin.ref (.skip (.skip (.skip (.skip (h.th))))) | exact Thin.ref (.skip (h.th)) | exact Thin.ref (.skip (.skip (h.th))) | exact Thin.ref (.skip (.skip (.skip (h.th)))) | exact Thin.ref (.skip (.skip (.skip (.skip (h.th))))) | exact ⟨rfl, oneAll_of rfl⟩ | exact oneAll_of rfl | exact rfl | exact ⟨rfl, rfl, rfl, rfl⟩ | exact ⟨rfl, rfl, rfl, rfl, rfl⟩ | exact ⟨by unfold maxLen; omega, by omega⟩ | omega) ?_ | intro _)); refine VC_can (t := tr_evergreenref12_Add_16) _ _ (by (repeat ((conv => whnf); refine And.intro (by first | exact rfl | exact vint_eq (by omega) | exact vint_eq (by (dsimp only; omega)) | exact vsl_eq (by omega) | exact vsl_eq (by first | (dsimp only; omega) | (simp; done) | (simp; omega))) ?_)); exact trivial) ((Ref.perm (.trans (.swap _ _ _) (.cons _ (.swap _ _ _)))).trans (Thin.ref (.own (by omega) rfl (.own (by omega) rfl (.own (by omega) rfl (Thin.refl _)))))) (add_16 h _ _ _ _ _)
  (repeat' ((conv => whnf); first | refine ⟨xs, h.rs _, ?_⟩ | refine ⟨ys, h.rl _, ?_⟩ | refine And.intro (by first | exact o1 | exact o2 | exact fun _ => Thin.ref (.skip (h.th)) | exact fun _ => Thin.ref (.skip (.skip (h.th))) | exact fun _ => Thin.ref (.skip (.skip (.skip (h.th)))) | exact fun _ => Thin.ref (.skip (.skip (.skip (.skip (h.th))))) | exact Thin.ref (.skip (h.th)) | exact Thin.ref (.skip (.skip (h.th))) | exact Thin.ref (.skip (.skip (.skip (h.th)))) | exact Thin.ref (.skip (.skip (.skip (.skip (h.th))))) | exact ⟨rfl, oneAll_of rfl⟩ | exact oneAll_of rfl | exact rfl | exact ⟨rfl, rfl, rfl, rfl⟩ | exact ⟨rfl, rfl, rfl, rfl, rfl⟩ | exact ⟨by unfold maxLen; omega, by omega⟩ | omega) ?_ | intro _)); refine VC_can (t := tr_evergreenref12_Add_17) _ _ (by (repeat ((conv => whnf); refine And.intro (by first | exact rfl | exact vint_eq (by omega) | exact vint_eq (by (dsimp only; omega)) | exact vsl_eq (by omega) | exact vsl_eq (by first | (dsimp only; omega) | (simp; done) | (simp; omega))) ?_)); exact trivial) ((Ref.perm (.trans (.swap _ _ _) (.cons _ (.swap _ _ _)))).trans (Thin.ref (.own (by omega) rfl (.own (by omega) rfl (.own (by omega) rfl (Thin.refl _)))))) (add_17 h _ _ _ _)

theorem add_19 (h : AddH w K Lb Lh E r N a1 a2 c1 c2 b6 xs ys) : ∀ (q1 : Option Addr) (q2 : Nat) (z1 : Option Addr) (z2 : Nat) (z3 : Option Addr), VT Try.prog w [] ops_evergreenref12_Add_6 K tr_evergreenref12_Add_19 Lb [(26, .sl 26 q1 0 q2), (33, .sl 33 z1 0 z2), (38, .sl 38 z3 1 1), (28, .v (.slice a1 E.length c1)), (30, .v (ruV r)), (35, .v (.slice a2 E.length c2)), (37, .v (.int .i64 N)), (44, .v (.int .i64 ((E.length : Int) + 1))), (6, .ptr 6 b6 0)] (.own 26 q1 0 q2 ty_api_Rule 5 [] :: .own 33 z1 0 z2 ty_int 1 [] :: .own 38 z3 1 1 ty_int 1 ([.int .i64 N]) :: Lh) := by
  have hE := h.hE
  have o1 := h.o1
  have o2 := h.o2
  intro q1 q2 z1 z2 z3
  (conv => whnf)
  refine stop_and ?_ ?_
  · (repeat' ((conv => whnf); first | refine ⟨xs, h.rs _, ?_⟩ | refine ⟨ys, h.rl _, ?_⟩ | refine And.intro (by first | exact o1 | exact o2 | exact fun _ => Thin.ref (.skip (h.th)) | exact fun _ => Thin.ref (.skip (.skip (h.th))) | exact fun _ => Thin.ref (.skip (.skip (.skip (h.th)))) | exact fun _ => Thin.ref (.skip (.skip (.skip (.skip (h.th))))) | exact Thin.ref (.skip (h.th)) | exact Thin.ref (.skip (.skip (h.th))) | exact Thin.ref (.skip (.skip (.skip (h.th)))) | exact Thin.ref (.skip (.skip (.skip (.skip (h.th))))) | exact ⟨rfl, oneAll_of rfl⟩ | exact oneAll_of rfl | exact rfl | exact ⟨rfl, rfl, rfl, rfl⟩ | exact ⟨rfl, rfl, rfl, rfl, rfl⟩ | exact ⟨by unfold maxLen; omega, by omega⟩ | omega) ?_ | intro _)); refine VC_can (t := tr_evergreenref12_Add_11) _ _ (by (repeat ((conv => whnf); refine And.intro (by first | exact rfl | exact vint_eq (by omega) | exact vint_eq (by (dsimp only; omega)) | exact vsl_eq (by omega) | exact vsl_eq (by first | (dsimp only; omega) | (simp; done) | (simp; omega))) ?_)); exact trivial) (Thin.ref (.own (by omega) rfl (.own (by omega) rfl (.own (by omega) rfl (Thin.refl _))))) (add_11 h _ _ _ _ _)
  (repeat' ((conv => whnf); first | refine ⟨xs, h.rs _, ?_⟩ | refine ⟨ys, h.rl _, ?_⟩ | refine And.intro (by first | exact o1 | exact o2 | exact fun _ => Thin.ref (.skip (h.th)) | exact fun _ => Thin.ref (.skip (.skip (h.th))) | exact fun _ => Thin.ref (.skip (.skip (.skip (h.th)))) | exact fun _ => Thin.ref (.skip (.skip (.skip (.skip (h.th))))) | exact Thin.ref (.skip (h.th)) | exact Thin.ref (.skip (.skip (h.th))) | exact Thin.ref (.skip (.skip (.skip (h.th)))) | exact Thin.ref (.skip (.skip (.skip (.skip (h.th))))) | exact ⟨rfl, oneAll_of rfl⟩ | exact oneAll_of rfl | exact rfl | exact ⟨rfl, rfl, rfl, rfl⟩ | exact ⟨rfl, rfl, rfl, rfl, rfl⟩ | exact ⟨by unfold maxLen; omega, by omega⟩ | omega) ?_ | intro _)); refine VC_can (t := tr_evergreenref12_Add_15) _ _ (by (repeat ((conv => whnf); refine And.intro (by first | exact rfl | exact vint_eq (by omega) | exact vint_eq (by (dsimp only; omega)) | exact vsl_eq (by omega) | exact vsl_eq (by first | (dsimp only; omega) | (simp; done) | (simp; omega))) ?_)); exact trivial) ((Ref.perm (.swap _ _ _)).trans (Thin.ref (.own (by omega) rfl (.own (by omega) rfl (.own (by omega) rfl (.own (by omega) rfl (Thin.refl _))))))) (add_15 h _ _ _ _ _ _)

theorem add_20 (h : AddH w K Lb Lh E r N a1 a2 c1 c2 b6 xs ys) : ∀ (q1 : Option Addr) (q2 : Nat) (z1 : Option Addr) (z2 : Nat), VT Try.prog w [] ops_evergreenref12_Add_6 K tr_evergreenref12_Add_20 Lb [(26, .sl 26 q1 0 q2), (33, .sl 33 z1 0 z2), (28, .v (.slice a1 E.length c1)), (30, .v (ruV r)), (35, .v (.slice a2 E.length c2)), (37, .v (.int .i64 N)), (44, .v (.int .i64 ((E.length : Int) + 1))), (6, .ptr 6 b6 0)] (.own 26 q1 0 q2 ty_api_Rule 5 [] :: .own 33 z1 0 z2 ty_int 1 [] :: Lh) := by
  have hE := h.hE
  have o1 := h.o1
  have o2 := h.o2
  intro q1 q2 z1 z2
  (conv => whnf)
  refine stop_and ?_ ?_
  · (repeat' ((conv => whnf); first | refine ⟨xs, h.rs _, ?_⟩ | refine ⟨ys, h.rl _, ?_⟩ | refine And.intro (by first | exact o1 | exact o2 | exact fun _ => Thin.ref (.skip (h.th)) | exact fun _ => Thin.ref (.skip (.skip (h.th))) | exact fun _ => Thin.ref (.skip (.skip (.skip (h.th)))) | exact fun _ => Thin.ref (.skip (.skip (.skip (.skip (h.th))))) | exact Thin.ref (.skip (h.th)) | exact Thin.ref (.skip (.skip (h.th))) | exact Thin.ref (.skip (.skip (.skip (h.th)))) | exact Thin.ref (.skip (.skip (.skip (.skip (h.th))))) | exact ⟨rfl, oneAll_of rfl⟩ | exact oneAll_of rfl | exact rfl | exact ⟨rfl, rfl, rfl, rfl⟩ | exact ⟨rfl, rfl, rfl, rfl, rfl⟩ | exact ⟨by unfold maxLen; omega, by omega⟩ | omega) ?_ | intro _)); refine VC_can (t := tr_evergreenref12_Add_12) _ _ (by (repeat ((conv => whnf); refine And.intro (by first | exact rfl | exact vint_eq (by omega) | exact vint_eq (by (dsimp only; omega)) | exact vsl_eq (by omega) | exact vsl_eq (by first | (dsimp only; omega) | (simp; done) | (simp; omega))) ?_)); exact trivial) (Thin.ref (.own (by omega) rfl (.own (by omega) rfl (Thin.refl _)))) (add_12 h _ _ _ _)
  (conv => whnf)
  refine stop_and ?_ ?_
  · (repeat' ((conv => whnf); first | refine ⟨xs, h.rs _, ?_⟩ | refine ⟨ys, h.rl _, ?_⟩ | refine And.intro (by first | exact o1 | exact o2 | exact fun _ => Thin.ref (.skip (h.th)) | exact fun _ => Thin.ref (.skip (.skip (h.th))) | exact fun _ => Thin.ref (.skip (.skip (.skip (h.th)))) | exact fun _ => Thin.ref (.skip (.skip (.skip (.skip (h.th))))) | exact Thin.ref (.skip (h.th)) | exact Thin.ref (.skip (.skip (h.th))) | exact Thin.ref (.skip (.skip (.skip (h.th)))) | exact Thin.ref (.skip (.skip (.skip (.skip (h.th))))) | exact ⟨rfl, oneAll_of rfl⟩ | exact oneAll_of rfl | exact rfl | exact ⟨rfl, rfl, rfl, rfl⟩ | exact ⟨rfl, rfl, rfl, rfl, rfl⟩ | exact ⟨by unfold maxLen; omega, by omega⟩ | omega) ?_ | intro _)); refine VC_can (t := tr_evergreenref12_Add_16) _ _ (by (repeat ((conv => whnf); refine And.intro (by first | exact rfl | exact vint_eq (by omega) | exact vint_eq (by (dsimp only; omega)) | exact vsl_eq (by omega) | exact vsl_eq (by first | (dsimp only; omega) | (simp; done) | (simp; omega))) ?_)); exact trivial) ((Ref.perm (.swap _ _ _)).trans (Thin.ref (.own (by omega) rfl (.own (by omega) rfl (.own (by omega) rfl (Thin.refl _)))))) (add_16 h _ _ _ _ _)
  (repeat' ((conv => whnf); first | refine ⟨xs, h.rs _, ?_⟩ | refine ⟨ys, h.rl _, ?_⟩ | refine And.intro (by first | exact o1 | exact o2 | exact fun _ => Thin.ref (.skip (h.th)) | exact fun _ => Thin.ref (.skip (.skip (h.th))) | exact fun _ => Thin.ref (.skip (.skip (.skip (h.th)))) | exact fun _ => Thin.ref (.skip (.skip (.skip (.skip (h.th))))) | exact Thin.ref (.skip (h.th)) | exact Thin.ref (.skip (.skip (h.th))) | exact Thin.ref (.skip (.skip (.skip (h.th)))) | exact Thin.ref (.skip (.skip (.skip (.skip (h.th))))) | exact ⟨rfl, oneAll_of rfl⟩ | exact oneAll_of rfl | exact rfl | exact ⟨rfl, rfl, rfl, rfl⟩ | exact ⟨rfl, rfl, rfl, rfl, rfl⟩ | exact ⟨by unfold maxLen; omega, by omega⟩ | omega) ?_ | intro _)); refine VC_can (t := tr_evergreenref12_Add_19) _ _ (by (repeat ((conv => whnf); refine And.intro (by first | exact rfl | exact vint_eq (by omega) | exact vint_eq (by (dsimp only; omega)) | exact vsl_eq (by omega) | exact vsl_eq (by first | (dsimp only; omega) | (simp; done) | (simp; omega))) ?_)); exact trivial) ((Ref.perm (.trans (.swap _ _ _) (.cons _ (.swap _ _ _)))).trans (Thin.ref (.own (by omega) rfl (.own (by omega) rfl (.own (by omega) rfl (Thin.refl _)))))) (add_19 h _ _ _ _ _)

theorem add_21 (h : AddH w K Lb Lh E r N a1 a2 c1 c2 b6 xs ys) : ∀ (q1 : Option Addr) (q2 : Nat) (z3 : Option Addr), VT Try.prog w [] ops_evergreenref12_Add_6 K tr_evergreenref12_Add_21 Lb [(26, .sl 26 q1 0 q2), (38, .sl 38 z3 1 1), (28, .v (.slice a1 E.length c1)), (30, .v (ruV r)), (35, .v (.slice a2 E.length c2)), (37, .v (.int .i64 N)), (44, .v (.int .i64 ((E.length : Int) + 1))), (6, .ptr 6 b6 0)] (.own 26 q1 0 q2 ty_api_Rule 5 [] :: .own 38 z3 1 1 ty_int 1 ([.int .i64 N]) :: Lh) := by
  have hE := h.hE
  have o1 := h.o1
  have o2 := h.o2
  intro q1 q2 z3
  (conv => whnf)
  refine stop_and ?_ ?_
  · (repeat' ((conv => whnf); first | refine ⟨xs, h.rs _, ?_⟩ | refine ⟨ys, h.rl _, ?_⟩ | refine And.intro (by first | exact o1 | exact o2 | exact fun _ => Thin.ref (.skip (h.th)) | exact fun _ => Thin.ref (.skip (.skip (h.th))) | exact fun _ => Thin.ref (.skip (.skip (.skip (h.th)))) | exact fun _ => Thin.ref (.skip (.skip (.skip (.skip (h.th))))) | exact Thin.ref (.skip (h.th)) | exact Thin.ref (.skip (.skip (h.th))) | exact Thin.ref (.skip (.skip (.skip (h.th)))) | exact Thin.ref (.skip (.skip (.skip (.skip (h.th))))) | exact ⟨rfl, oneAll_of rfl⟩ | exact oneAll_of rfl | exact rfl | exact ⟨rfl, rfl, rfl, rfl⟩ | exact ⟨rfl, rfl, rfl, rfl, rfl⟩ | exact ⟨by unfold maxLen; omega, by omega⟩ | omega) ?_ | intro _)); refine VC_can (t := tr_evergreenref12_Add_13) _ _ (by (repeat ((conv => whnf); refine And.intro (by first | exact rfl | exact vint_eq (by omega) | exact vint_eq (by (dsimp only; omega)) | exact vsl_eq (by omega) | exact vsl_eq (by first | (dsimp only; omega) | (simp; done) | (simp; omega))) ?_)); exact trivial) (Thin.ref (.own (by omega) rfl (.own (by omega) rfl (Thin.refl _)))) (add_13 h _ _ _)
  (conv => whnf)
  refine stop_and ?_ ?_
  · (repeat' ((conv => whnf); first | refine ⟨xs, h.rs _, ?_⟩ | refine ⟨ys, h.rl _, ?_⟩ | refine And.intro (by first | exact o1 | exact o2 | exact fun _ => Thin.ref (.skip (h.th)) | exact fun _ => Thin.ref (.skip (.skip (h.th))) | exact fun _ => Thin.ref (.skip (.skip (.skip (h.th)))) | exact fun _ => Thin.ref (.skip (.skip (.skip (.skip (h.th))))) | exact Thin.ref (.skip (h.th)) | exact Thin.ref (.skip (.skip (h.th))) | exact Thin.ref (.skip (.skip (.skip (h.th)))) | exact Thin.ref (.skip (.skip (.skip (.skip (h.th))))) | exact ⟨rfl, oneAll_of rfl⟩ | exact oneAll_of rfl | exact rfl | exact ⟨rfl, rfl, rfl, rfl⟩ | exact ⟨rfl, rfl, rfl, rfl, rfl⟩ | exact ⟨by unfold maxLen; omega, by omega⟩ | omega) ?_ | intro _)); refine VC_can (t := tr_evergreenref12_Add_17) _ _ (by (repeat ((conv => whnf); refine And.intro (by first | exact rfl | exact vint_eq (by omega) | exact vint_eq (by (dsimp only; omega)) | exact vsl_eq (by omega) | exact vsl_eq (by first | (dsimp only; omega) | (simp; done) | (simp; omega))) ?_)); exact trivial) ((Ref.perm (.swap _ _ _)).trans (Thin.ref (.own (by omega) rfl (.own (by omega) rfl (.own (by omega) rfl (Thin.refl _)))))) (add_17 h _ _ _ _)
  (repeat' ((conv => whnf); first | refine ⟨xs, h.rs _, ?_⟩ | refine ⟨ys, h.rl _, ?_⟩ | refine And.intro (by first | exact o1 | exact o2 | exact fun _ => Thin.ref (.skip (h.th)) | exact fun _ => Thin.ref (.skip (.skip (h.th))) | exact fun _ => Thin.ref (.skip (.skip (.skip (h.th)))) | exact fun _ => Thin.ref (.skip (.skip (.skip (.skip (h.th))))) | exact Thin.ref (.skip (h.th)) | exact Thin.ref (.skip (.skip (h.th))) | exact Thin.ref (.skip (.skip (.skip (h.th)))) | exact Thin.ref (.skip (.skip (.skip (.skip (h.th))))) | exact ⟨rfl, oneAll_of rfl⟩ | exact oneAll_of rfl | exact rfl | exact ⟨rfl, rfl, rfl, rfl⟩ | exact ⟨rfl, rfl, rfl, rfl, rfl⟩ | exact ⟨by unfold maxLen; omega, by omega⟩ | omega) ?_ | intro _)); refine VC_can (t := tr_evergreenref12_Add_19) _ _ (by (repeat ((conv => whnf); refine And.intro (by first | exact rfl | exact vint_eq (by omega) | exact vint_eq (by (dsimp only; omega)) | exact vsl_eq (by omega) | exact vsl_eq (by first | (dsimp only; omega) | (simp; done) | (simp; omega))) ?_)); exact trivial) ((Ref.perm (.swap _ _ _)).trans (Thin.ref (.own (by omega) rfl (.own (by omega) rfl (.own (by omega) rfl (Thin.refl _)))))) (add_19 h _ _ _ _ _)

theorem add_22 (h : AddH w K Lb Lh E r N a1 a2 c1 c2 b6 xs ys) : ∀ (q1 : Option Addr) (q2 : Nat), VT Try.prog w [] ops_evergreenref12_Add_6 K tr_evergreenref12_Add_22 Lb [(26, .sl 26 q1 0 q2), (28, .v (.slice a1 E.length c1)), (30, .v (ruV r)), (35, .v (.slice a2 E.length c2)), (37, .v (.int .i64 N)), (44, .v (.int .i64 ((E.length : Int) + 1))), (6, .ptr 6 b6 0)] (.own 26 q1 0 q2 ty_api_Rule 5 [] :: Lh) := by
  have hE := h.hE
  have o1 := h.o1
  have o2 := h.o2
  intro q1 q2
  (conv => whnf)
  refine stop_and ?_ ?_
  · (repeat' ((conv => whnf); first | refine ⟨xs, h.rs _, ?_⟩ | refine ⟨ys, h.rl _, ?_⟩ | refine And.intro (by first | exact o1 | exact o2 | exact fun _ => Thin.ref (.skip (h.th)) | exact fun _ => Thin.ref (.skip (.skip (h.th))) | exact fun _ => Thin.ref (.skip (.skip (.skip (h.th)))) | exact fun _ => Thin.ref (.skip (.skip (.skip (.skip (h.th))))) | exact Thin.ref (.skip (h.th)) | exact Thin.ref (.skip (.skip (h.th))) | exact Thin.ref (.skip (.skip (.skip (h.th)))) | exact Thin.ref (.skip (.skip (.skip (.skip (h.th))))) | exact ⟨rfl, oneAll_of rfl⟩ | exact oneAll_of rfl | exact rfl | exact ⟨rfl, rfl, rfl, rfl⟩ | exact ⟨rfl, rfl, rfl, rfl, rfl⟩ | exact ⟨by unfold maxLen; omega, by omega⟩ | omega) ?_ | intro _)); refine VC_can (t := tr_evergreenref12_Add_14) _ _ (by (repeat ((conv => whnf); refine And.intro (by first | exact rfl | exact vint_eq (by omega) | exact vint_eq (by (dsimp only; omega)) | exact vsl_eq (by omega) | exact vsl_eq (by first | (dsimp only; omega) | (simp; done) | (simp; omega))) ?_)); exact trivial) (Thin.ref (.own (by omega) rfl (Thin.refl _))) (add_14 h _ _)
  (conv => whnf)
  refine stop_and ?_ ?_
  · (repeat' ((conv => whnf); first | refine ⟨xs, h.rs _, ?_⟩ | refine ⟨ys, h.rl _, ?_⟩ | refine And.intro (by first | exact o1 | exact o2 | exact fun _ => Thin.ref (.skip (h.th)) | exact fun _ => Thin.ref (.skip (.skip (h.th))) | exact fun _ => Thin.ref (.skip (.skip (.skip (h.th)))) | exact fun _ => Thin.ref (.skip (.skip (.skip (.skip (h.th))))) | exact Thin.ref (.skip (h.th)) | exact Thin.ref (.skip (.skip (h.th))) | exact Thin.ref (.skip (.skip (.skip (h.th)))) | exact Thin.ref (.skip (.skip (.skip (.skip (h.th))))) | exact ⟨rfl, oneAll_of rfl⟩ | exact oneAll_of rfl | exact rfl | exact ⟨rfl, rfl, rfl, rfl⟩ | exact ⟨rfl, rfl, rfl, rfl, rfl⟩ | exact ⟨by unfold maxLen; omega, by omega⟩ | omega) ?_ | intro _)); refine VC_can (t := tr_evergreenref12_Add_18) _ _ (by (repeat ((conv => whnf); refine And.intro (by first | exact rfl | exact vint_eq (by omega) | exact vint_eq (by (dsimp only; omega)) | exact vsl_eq (by omega) | exact vsl_eq (by first | (dsimp only; omega) | (simp; done) | (simp; omega))) ?_)); exact trivial) ((Ref.perm (.swap _ _ _)).trans (Thin.ref (.own (by omega) rfl (.own (by omega) rfl (Thin.refl _))))) (add_18 h _ _ _)
  (conv => whnf)
  refine stop_and ?_ ?_
  · (repeat' ((conv => whnf); first | refine ⟨xs, h.rs _, ?_⟩ | refine ⟨ys, h.rl _, ?_⟩ | refine And.intro (by first | exact o1 | exact o2 | exact fun _ => Thin.ref (.skip (h.th)) | exact fun _ => Thin.ref (.skip (.skip (h.th))) | exact fun _ => Thin.ref (.skip (.skip (.skip (h.th)))) | exact fun _ => Thin.ref (.skip (.skip (.skip (.skip (h.th))))) | exact Thin.ref (.skip (h.th)) | exact Thin.ref (.skip (.skip (h.th))) | exact Thin.ref (.skip (.skip (.skip (h.th)))) | exact Thin.ref (.skip (.skip (.skip (.skip (h.th))))) | exact ⟨rfl, oneAll_of rfl⟩ | exact oneAll_of rfl | exact rfl | exact ⟨rfl, rfl, rfl, rfl⟩ | exact ⟨rfl, rfl, rfl, rfl, rfl⟩ | exact ⟨by unfold maxLen; omega, by omega⟩ | omega) ?_ | intro _)); refine VC_can (t := tr_evergreenref12_Add_20) _ _ (by (repeat ((conv => whnf); refine And.intro (by first | exact rfl | exact vint_eq (by omega) | exact vint_eq (by (dsimp only; omega)) | exact vsl_eq (by omega) | exact vsl_eq (by first | (dsimp only; omega) | (simp; done) | (simp; omega))) ?_)); exact trivial) ((Ref.perm (.swap _ _ _)).trans (Thin.ref (.own (by omega) rfl (.own (by omega) rfl (Thin.refl _))))) (add_20 h _ _ _ _)
  (repeat' ((conv => whnf); first | refine ⟨xs, h.rs _, ?_⟩ | refine ⟨ys, h.rl _, ?_⟩ | refine And.intro (by first | exact o1 | exact o2 | exact fun _ => Thin.ref (.skip (h.th)) | exact fun _ => Thin.ref (.skip (.skip (h.th))) | exact fun _ => Thin.ref (.skip (.skip (.skip (h.th)))) | exact fun _ => Thin.ref (.skip (.skip (.skip (.skip (h.th))))) | exact Thin.ref (.skip (h.th)) | exact Thin.ref (.skip (.skip (h.th))) | exact Thin.ref (.skip (.skip (.skip (h.th)))) | exact Thin.ref (.skip (.skip (.skip (.skip (h.th))))) | exact ⟨rfl, oneAll_of rfl⟩ | exact oneAll_of rfl | exact rfl | exact ⟨rfl, rfl, rfl, rfl⟩ | exact ⟨rfl, rfl, rfl, rfl, rfl⟩ | exact ⟨by unfold maxLen; omega, by omega⟩ | omega) ?_ | intro _)); refine VC_can (t := tr_evergreenref12_Add_21) _ _ (by (repeat ((conv => whnf); refine And.intro (by first | exact rfl | exact vint_eq (by omega) | exact vint_eq (by (dsimp only; omega)) | exact vsl_eq (by omega) | exact vsl_eq (by first | (dsimp only; omega) | (simp; done) | (simp; omega))) ?_)); exact trivial) ((Ref.perm (.swap _ _ _)).trans (Thin.ref (.own (by omega) rfl (.own (by omega) rfl (Thin.refl _))))) (add_21 h _ _ _)

theorem add_23 (h : AddH w K Lb Lh E r N a1 a2 c1 c2 b6 xs ys) : ∀ (q3 : Option Addr) (z1 : Option Addr) (z2 : Nat) (z3 : Option Addr), VT Try.prog w [] ops_evergreenref12_Add_6 K tr_evergreenref12_Add_23 Lb [(31, .sl 31 q3 1 1), (33, .sl 33 z1 0 z2), (38, .sl 38 z3 1 1), (28, .v (.slice a1 E.length c1)), (30, .v (ruV r)), (35, .v (.slice a2 E.length c2)), (37, .v (.int .i64 N)), (44, .v (.int .i64 ((E.length : Int) + 1))), (6, .ptr 6 b6 0)] (.own 31 q3 1 1 ty_api_Rule 5 (ruC r) :: .own 33 z1 0 z2 ty_int 1 [] :: .own 38 z3 1 1 ty_int 1 ([.int .i64 N]) :: Lh) := by
  have hE := h.hE
  have o1 := h.o1
  have o2 := h.o2
  intro q3 z1 z2 z3
  (repeat' ((conv => whnf); first | refine ⟨xs, h.rs _, ?_⟩ | refine ⟨ys, h.rl _, ?_⟩ | refine And.intro (by first | exact o1 | exact o2 | exact fun _ => Thin.ref (.skip (h.th)) | exact fun _ => Thin.ref (.skip (.skip (h.th))) | exact fun _ => Thin.ref (.skip (.skip (.skip (h.th)))) | exact fun _ => Thin.ref (.skip (.skip (.skip (.skip (h.th))))) | exact Thin.ref (.skip (h.th)) | exact Thin.ref (.skip (.skip (h.th))) | exact Thin.ref (.skip (.skip (.skip (h.th)))) | exact Thin.ref (.skip (.skip (.skip (.skip (h.th))))) | exact ⟨rfl, oneAll_of rfl⟩ | exact oneAll_of rfl | exact rfl | exact ⟨rfl, rfl, rfl, rfl⟩ | exact ⟨rfl, rfl, rfl, rfl, rfl⟩ | exact ⟨by unfold maxLen; omega, by omega⟩ | omega) ?_ | intro _)); refine VC_can (t := tr_evergreenref12_Add_15) _ _ (by (repeat ((conv => whnf); refine And.intro (by first | exact rfl | exact vint_eq (by omega) | exact vint_eq (by (dsimp only; omega)) | exact vsl_eq (by omega) | exact vsl_eq (by first | (dsimp only; omega) | (simp; done) | (simp; omega))) ?_)); exact trivial) (Thin.ref (.own (by omega) rfl (.own (by omega) rfl (.own (by omega) rfl (.own (by omega) rfl (Thin.refl _)))))) (add_15 h _ _ _ _ _ _)

theorem add_24 (h : AddH w K Lb Lh E r N a1 a2 c1 c2 b6 xs ys) : ∀ (q3 : Option Addr) (z1 : Option Addr) (z2 : Nat), VT Try.prog w [] ops_evergreenref12_Add_6 K tr_evergreenref12_Add_24 Lb [(31, .sl 31 q3 1 1), (33, .sl 33 z1 0 z2), (28, .v (.slice a1 E.length c1)), (30, .v (ruV r)), (35, .v (.slice a2 E.length c2)), (37, .v (.int .i64 N)), (44, .v (.int .i64 ((E.length : Int) + 1))), (6, .ptr 6 b6 0)] (.own 31 q3 1 1 ty_api_Rule 5 (ruC r) :: .own 33 z1 0 z2 ty_int 1 [] :: Lh) := by
  have hE := h.hE
  have o1 := h.o1
  have o2 := h.o2
  intro q3 z1 z2
  (conv => whnf)
  refine stop_and ?_ ?_
  · (repeat' ((conv => whnf); first | refine ⟨xs, h.rs _, ?_⟩ | refine ⟨ys, h.rl _, ?_⟩ | refine And.intro (by first | exact o1 | exact o2 | exact fun _ => Thin.ref (.skip (h.th)) | exact fun _ => Thin.ref (.skip (.skip (h.th))) | exact fun _ => Thin.ref (.skip (.skip (.skip (h.th)))) | exact fun _ => Thin.ref (.skip (.skip (.skip (.skip (h.th))))) | exact Thin.ref (.skip (h.th)) | exact Thin.ref (.skip (.skip (h.th))) | exact Thin.ref (.skip (.skip (.skip (h.th)))) | exact Thin.ref (.skip (.skip (.skip (.skip (h.th))))) | exact ⟨rfl, oneAll_of rfl⟩ | exact oneAll_of rfl | exact rfl | exact ⟨rfl, rfl, rfl, rfl⟩ | exact ⟨rfl, rfl, rfl, rfl, rfl⟩ | exact ⟨by unfold maxLen; omega, by omega⟩ | omega) ?_ | intro _)); refine VC_can (t := tr_evergreenref12_Add_16) _ _ (by (repeat ((conv => whnf); refine And.intro (by first | exact rfl | exact vint_eq (by omega) | exact vint_eq (by (dsimp only; omega)) | exact vsl_eq (by omega) | exact vsl_eq (by first | (dsimp only; omega) | (simp; done) | (simp; omega))) ?_)); exact trivial) (Thin.ref (.own (by omega) rfl (.own (by omega) rfl (.own (by omega) rfl (Thin.refl _))))) (add_16 h _ _ _ _ _)
  (repeat' ((conv => whnf); first | refine ⟨xs, h.rs _, ?_⟩ | refine ⟨ys, h.rl _, ?_⟩ | refine And.intro (by first | exact o1 | exact o2 | exact fun _ => Thin.ref (.skip (h.th)) | exact fun _ => Thin.ref (.skip (.skip (h.th))) | exact fun _ => Thin.ref (.skip (.skip (.skip (h.th)))) | exact fun _ => Thin.ref (.skip (.skip (.skip (.skip (h.th))))) | exact Thin.ref (.skip (h.th)) | exact Thin.ref (.skip (.skip (h.th))) | exact Thin.ref (.skip (.skip (.skip (h.th)))) | exact Thin.ref (.skip (.skip (.skip (.skip (h.th))))) | exact ⟨rfl, oneAll_of rfl⟩ | exact oneAll_of rfl | exact rfl | exact ⟨rfl, rfl, rfl, rfl⟩ | exact ⟨rfl, rfl, rfl, rfl, rfl⟩ | exact ⟨by unfold maxLen; omega, by omega⟩ | omega) ?_ | intro _)); refine VC_can (t := tr_evergreenref12_Add_23) _ _ (by (repeat ((conv => whnf); refine And.intro (by first | exact rfl | exact vint_eq (by omega) | exact vint_eq (by (dsimp only; omega)) | exact vsl_eq (by omega) | exact vsl_eq (by first | (dsimp only; omega) | (simp; done) | (simp; omega))) ?_)); exact trivial) ((Ref.perm (.trans (.swap _ _ _) (.cons _ (.swap _ _ _)))).trans (Thin.ref (.own (by omega) rfl (.own (by omega) rfl (.own (by omega) rfl (Thin.refl _)))))) (add_23 h _ _ _ _)

theorem add_25 (h : AddH w K Lb Lh E r N a1 a2 c1 c2 b6 xs ys) : ∀ (q3 : Option Addr) (z3 : Option Addr), VT Try.prog w [] ops_evergreenref12_Add_6 K tr_evergreenref12_Add_25 Lb [(31, .sl 31 q3 1 1), (38, .sl 38 z3 1 1), (28, .v (.slice a1 E.length c1)), (30, .v (ruV r)), (35, .v (.slice a2 E.length c2)), (37, .v (.int .i64 N)), (44, .v (.int .i64 ((E.length : Int) + 1))), (6, .ptr 6 b6 0)] (.own 31 q3 1 1 ty_api_Rule 5 (ruC r) :: .own 38 z3 1 1 ty_int 1 ([.int .i64 N]) :: Lh) := by
  have hE := h.hE
  have o1 := h.o1
  have o2 := h.o2
  intro q3 z3
  (conv => whnf)
  refine stop_and ?_ ?_
  · (repeat' ((conv => whnf); first | refine ⟨xs, h.rs _, ?_⟩ | refine ⟨ys, h.rl _, ?_⟩ | refine And.intro (by first | exact o1 | exact o2 | exact fun _ => Thin.ref (.skip (h.th)) | exact fun _ => Thin.ref (.skip (.skip (h.th))) | exact fun _ => Thin.ref (.skip (.skip (.skip (h.th)))) | exact fun _ => Thin.ref (.skip (.skip (.skip (.skip (h.th))))) | exact Thin.ref (.skip (h.th)) | exact Thin.ref (.skip (.skip (h.th))) | exact Thin.ref (.skip (.skip (.skip (h.th)))) | exact Thin.ref (.skip (.skip (.skip (.skip (h.th))))) | exact ⟨rfl, oneAll_of rfl⟩ | exact oneAll_of rfl | exact rfl | exact ⟨rfl, rfl, rfl, rfl⟩ | exact ⟨rfl, rfl, rfl, rfl, rfl⟩ | exact ⟨by unfold maxLen; omega, by omega⟩ | omega) ?_ | intro _)); refine VC_can (t := tr_evergreenref12_Add_17) _ _ (by (repeat ((conv => whnf); refine And.intro (by first | exact rfl | exact vint_eq (by omega) | exact vint_eq (by (dsimp only; omega)) | exact vsl_eq (by omega) | exact vsl_eq (by first | (dsimp only; omega) | (simp; done) | (simp; omega))) ?_)); exact trivial) (Thin.ref (.own (by omega) rfl (.own (by omega) rfl (.own (by omega) rfl (Thin.refl _))))) (add_17 h _ _ _ _)
  (repeat' ((conv => whnf); first | refine ⟨xs, h.rs _, ?_⟩ | refine ⟨ys, h.rl _, ?_⟩ | refine And.intro (by first | exact o1 | exact o2 | exact fun _ => Thin.ref (.skip (h.th)) | exact fun _ => Thin.ref (.skip (.skip (h.th))) | exact fun _ => Thin.ref (.skip (.skip (.skip (h.th)))) | exact fun _ => Thin.ref (.skip (.skip (.skip (.skip (h.th))))) | exact Thin.ref (.skip (h.th)) | exact Thin.ref (.skip (.skip (h.th))) | exact Thin.ref (.skip (.skip (.skip (h.th)))) | exact Thin.ref (.skip (.skip (.skip (.skip (h.th))))) | exact ⟨rfl, oneAll_of rfl⟩ | exact oneAll_of rfl | exact rfl | exact ⟨rfl, rfl, rfl, rfl⟩ | exact ⟨rfl, rfl, rfl, rfl, rfl⟩ | exact ⟨by unfold maxLen; omega, by omega⟩ | omega) ?_ | intro _)); refine VC_can (t := tr_evergreenref12_Add_23) _ _ (by (repeat ((conv => whnf); refine And.intro (by first | exact rfl | exact vint_eq (by omega) | exact vint_eq (by (dsimp only; omega)) | exact vsl_eq (by omega) | exact vsl_eq (by first | (dsimp only; omega) | (simp; done) | (simp; omega))) ?_)); exact trivial) ((Ref.perm (.swap _ _ _)).trans (Thin.ref (.own (by omega) rfl (.own (by omega) rfl (.own (by omega) rfl (Thin.refl _)))))) (add_23 h _ _ _ _)

theorem add_26 (h : AddH w K Lb Lh E r N a1 a2 c1 c2 b6 xs ys) : ∀ (q3 : Option Addr), VT Try.prog w [] ops_evergreenref12_Add_6 K tr_evergreenref12_Add_26 Lb [(31, .sl 31 q3 1 1), (28, .v (.slice a1 E.length c1)), (30, .v (ruV r)), (35, .v (.slice a2 E.length c2)), (37, .v (.int .i64 N)), (44, .v (.int .i64 ((E.length : Int) + 1))), (6, .ptr 6 b6 0)] (.own 31 q3 1 1 ty_api_Rule 5 (ruC r) :: Lh) := by
  have hE := h.hE
  have o1 := h.o1
  have o2 := h.o2
  intro q3
  (conv => whnf)
  refine stop_and ?_ ?_
  · (repeat' ((conv => whnf); first | refine ⟨xs, h.rs _, ?_⟩ | refine ⟨ys, h.rl _, ?_⟩ | refine And.intro (by first | exact o1 | exact o2 | exact fun _ => Thin.ref (.skip (h.th)) | exact fun _ => Thin.ref (.skip (.skip (h.th))) | exact fun _ => Thin.ref (.skip (.skip (.skip (h.th)))) | exact fun _ => Thin.ref (.skip (.skip (.skip (.skip (h.th))))) | exact Thin.ref (.skip (h.th)) | exact Thin.ref (.skip (.skip (h.th))) | exact Thin.ref (.skip (.skip (.skip (h.th)))) | exact Thin.ref (.skip (.skip (.skip (.skip (h.th))))) | exact ⟨rfl, oneAll_of rfl⟩ | exact oneAll_of rfl | exact rfl | exact ⟨rfl, rfl, rfl, rfl⟩ | exact ⟨rfl, rfl, rfl, rfl, rfl⟩ | exact ⟨by unfold maxLen; omega, by omega⟩ | omega) ?_ | intro _)); refine VC_can (t := tr_evergreenref12_Add_18) _ _ (by (repeat ((conv => whnf); refine And.intro (by first | exact rfl | exact vint_eq (by omega) | exact vint_eq (by (dsimp only; omega)) | exact vsl_eq (by omega) | exact vsl_eq (by first | (dsimp only; omega) | (simp; done) | (simp; omega))) ?_)); exact trivial) (Thin.ref (.own (by omega) rfl (.own (by omega) rfl (Thin.refl _)))) (add_18 h _ _ _)
  (conv => whnf)
  refine stop_and ?_ ?_
  · (repeat' ((conv => whnf); first | refine ⟨xs, h.rs _, ?_⟩ | refine ⟨ys, h.rl _, ?_⟩ | refine And.intro (by first | exact o1 | exact o2 | exact fun _ => Thin.ref (.skip (h.th)) | exact fun _ => Thin.ref (.skip (.skip (h.th))) | exact fun _ => Thin.ref (.skip (.skip (.skip (h.th)))) | exact fun _ => Thin.ref (.skip (.skip (.skip (.skip (h.th))))) | exact Thin.ref (.skip (h.th)) | exact Thin.ref (.skip (.skip (h.th))) | exact Thin.ref (.skip (.skip (.skip (h.th)))) | exact Thin.ref (.skip (.skip (.skip (.skip (h.th))))) | exact ⟨rfl, oneAll_of rfl⟩ | exact oneAll_of rfl | exact rfl | exact ⟨rfl, rfl, rfl, rfl⟩ | exact ⟨rfl, rfl, rfl, rfl, rfl⟩ | exact ⟨by unfold maxLen; omega, by omega⟩ | omega) ?_ | intro _)); refine VC_can (t := tr_evergreenref12_Add_24) _ _ (by (repeat ((conv => whnf); refine And.intro (by first | exact rfl | exact vint_eq (by omega) | exact vint_eq (by (dsimp only; omega)) | exact vsl_eq (by omega) | exact vsl_eq (by first | (dsimp only; omega) | (simp; done) | (simp; omega))) ?_)); exact trivial) ((Ref.perm (.swap _ _ _)).trans (Thin.ref (.own (by omega) rfl (.own (by omega) rfl (Thin.refl _))))) (add_24 h _ _ _)
  (repeat' ((conv => whnf); first | refine ⟨xs, h.rs _, ?_⟩ | refine ⟨ys, h.rl _, ?_⟩ | refine And.intro (by first | exact o1 | exact o2 | exact fun _ => Thin.ref (.skip (h.th)) | exact fun _ => Thin.ref (.skip (.skip (h.th))) | exact fun _ => Thin.ref (.skip (.skip (.skip (h.th)))) | exact fun _ => Thin.ref (.skip (.skip (.skip (.skip (h.th))))) | exact Thin.ref (.skip (h.th)) | exact Thin.ref (.skip (.skip (h.th))) | exact Thin.ref (.skip (.skip (.skip (h.th)))) | exact Thin.ref (.skip (.skip (.skip (.skip (h.th))))) | exact ⟨rfl, oneAll_of rfl⟩ | exact oneAll_of rfl | exact rfl | exact ⟨rfl, rfl, rfl, rfl⟩ | exact ⟨rfl, rfl, rfl, rfl, rfl⟩ | exact ⟨by unfold maxLen; omega, by omega⟩ | omega) ?_ | intro _)); refine VC_can (t := tr_evergreenref12_Add_25) _ _ (by (repeat ((conv => whnf); refine And.intro (by first | exact rfl | exact vint_eq (by omega) | exact vint_eq (by (dsimp only; omega)) | exact vsl_eq (by omega) | exact vsl_eq (by first | (dsimp only; omega) | (simp; done) | (simp; omega))) ?_)); exact trivial) ((Ref.perm (.swap _ _ _)).trans (Thin.ref (.own (by omega) rfl (.own (by omega) rfl (Thin.refl _))))) (add_25 h _ _)

theorem add_27 (h : AddH w K Lb Lh E r N a1 a2 c1 c2 b6 xs ys) : ∀ (z1 : Option Addr) (z2 : Nat) (z3 : Option Addr), VT Try.prog w [] ops_evergreenref12_Add_6 K tr_evergreenref12_Add_27 Lb [(33, .sl 33 z1 0 z2), (38, .sl 38 z3 1 1), (28, .v (.slice a1 E.length c1)), (30, .v (ruV r)), (35, .v (.slice a2 E.length c2)), (37, .v (.int .i64 N)), (44, .v (.int .i64 ((E.length : Int) + 1))), (6, .ptr 6 b6 0)] (.own 33 z1 0 z2 ty_int 1 [] :: .own 38 z3 1 1 ty_int 1 ([.int .i64 N]) :: Lh) := by
  have hE := h.hE
  have o1 := h.o1
  have o2 := h.o2
  intro z1 z2 z3
  (conv => whnf)
  refine stop_and ?_ ?_
  · (repeat' ((conv => whnf); first | refine ⟨xs, h.rs _, ?_⟩ | refine ⟨ys, h.rl _, ?_⟩ | refine And.intro (by first | exact o1 | exact o2 | exact fun _ => Thin.ref (.skip (h.th)) | exact fun _ => Thin.ref (.skip (.skip (h.th))) | exact fun _ => Thin.ref (.skip (.skip (.skip (h.th)))) | exact fun _ => Thin.ref (.skip (.skip (.skip (.skip (h.th))))) | exact Thin.ref (.skip (h.th)) | exact Thin.ref (.skip (.skip (h.th))) | exact Thin.ref (.skip (.skip (.skip (h.th)))) | exact Thin.ref (.skip (.skip (.skip (.skip (h.th))))) | exact ⟨rfl, oneAll_of rfl⟩ | exact oneAll_of rfl | exact rfl | exact ⟨rfl, rfl, rfl, rfl⟩ | exact ⟨rfl, rfl, rfl, rfl, rfl⟩ | exact ⟨by unfold maxLen; omega, by omega⟩ | omega) ?_ | intro _)); refine VC_can (t := tr_evergreenref12_Add_19) _ _ (by (repeat ((conv => whnf); refine And.intro (by first | exact rfl | exact vint_eq (by omega) | exact vint_eq (by (dsimp only; omega)) | exact vsl_eq (by omega) | exact vsl_eq (by first | (dsimp only; omega) | (simp; done) | (simp; omega))) ?_)); exact trivial) (Thin.ref (.own (by omega) rfl (.own (by omega) rfl (.own (by omega) rfl (Thin.refl _))))) (add_19 h _ _ _ _ _)
  (repeat' ((conv => whnf); first | refine ⟨xs, h.rs _, ?_⟩ | refine ⟨ys, h.rl _, ?_⟩ | refine And.intro (by first | exact o1 | exact o2 | exact fun _ => Thin.ref (.skip (h.th)) | exact fun _ => Thin.ref (.skip (.skip (h.th))) | exact fun _ => Thin.ref (.skip (.skip (.skip (h.th)))) | exact fun _ => Thin.ref (.skip (.skip (.skip (.skip (h.th))))) | exact Thin.ref (.skip (h.th)) | exact Thin.ref (.skip (.skip (h.th))) | exact Thin.ref (.skip (.skip (.skip (h.th)))) | exact Thin.ref (.skip (.skip (.skip (.skip (h.th))))) | exact ⟨rfl, oneAll_of rfl⟩ | exact oneAll_of rfl | exact rfl | exact ⟨rfl, rfl, rfl, rfl⟩ | exact ⟨rfl, rfl, rfl, rfl, rfl⟩ | exact ⟨by unfold maxLen; omega, by omega⟩ | omega) ?_ | intro _)); refine VC_can (t := tr_evergreenref12_Add_23) _ _ (by (repeat ((conv => whnf); refine And.intro (by first | exact rfl | exact vint_eq (by omega) | exact vint_eq (by (dsimp only; omega)) | exact vsl_eq (by omega) | exact vsl_eq (by first | (dsimp only; omega) | (simp; done) | (simp; omega))) ?_)); exact trivial) (Thin.ref (.own (by omega) rfl (.own (by omega) rfl (.own (by omega) rfl (Thin.refl _))))) (add_23 h _ _ _ _)

theorem add_28 (h : AddH w K Lb Lh E r N a1 a2 c1 c2 b6 xs ys) : ∀ (z1 : Option Addr) (z2 : Nat), VT Try.prog w [] ops_evergreenref12_Add_6 K tr_evergreenref12_Add_28 Lb [(33, .sl 33 z1 0 z2), (28, .v (.slice a1 E.length c1)), (30, .v (ruV r)), (35, .v (.slice a2 E.length c2)), (37, .v (.int .i64 N)), (44, .v (.int .i64 ((E.length : Int) + 1))), (6, .ptr 6 b6 0)] (.own 33 z1 0 z2 ty_int 1 [] :: Lh) := by
  have hE := h.hE
  have o1 := h.o1
  have o2 := h.o2
  intro z1 z2
  (conv => whnf)
  refine stop_and ?_ ?_
  · (repeat' ((conv => whnf); first | refine ⟨xs, h.rs _, ?_⟩ | refine ⟨ys, h.rl _, ?_⟩ | refine And.intro (by first | exact o1 | exact o2 | exact fun _ => Thin.ref (.skip (h.th)) | exact fun _ => Thin.ref (.skip (.skip (h.th))) | exact fun _ => Thin.ref (.skip (.skip (.skip (h.th)))) | exact fun _ => Thin.ref (.skip (.skip (.skip (.skip (h.th))))) | exact Thin.ref (.skip (h.th)) | exact Thin.ref (.skip (.skip (h.th))) | exact Thin.ref (.skip (.skip (.skip (h.th)))) | exact Thin.ref (.skip (.skip (.skip (.skip (h.th))))) | exact ⟨rfl, oneAll_of rfl⟩ | exact oneAll_of rfl | exact rfl | exact ⟨rfl, rfl, rfl, rfl⟩ | exact ⟨rfl, rfl, rfl, rfl, rfl⟩ | exact ⟨by unfold maxLen; omega, by omega⟩ | omega) ?_ | intro _)); refine VC_can (t := tr_evergreenref12_Add_20) _ _ (by (repeat ((conv => whnf); refine And.intro (by first | exact rfl | exact vint_eq (by omega) | exact vint_eq (by (dsimp only; omega)) | exact vsl_eq (by omega) | exact vsl_eq (by first | (dsimp only; omega) | (simp; done) | (simp; omega))) ?_)); exact trivial) (Thin.ref (.own (by omega) rfl (.own (by omega) rfl (Thin.refl _)))) (add_20 h _ _ _ _)
  (conv => whnf)
  refine stop_and ?_ ?_
  · (repeat' ((conv => whnf); first | refine ⟨xs, h.rs _, ?_⟩ | refine ⟨ys, h.rl _, ?_⟩ | refine And.intro (by first | exact o1 | exact o2 | exact fun _ => Thin.ref (.skip (h.th)) | exact fun _ => Thin.ref (.skip (.skip (h.th))) | exact fun _ => Thin.ref (.skip (.skip (.skip (h.th)))) | exact fun _ => Thin.ref (.skip (.skip (.skip (.skip (h.th))))) | exact Thin.ref (.skip (h.th)) | exact Thin.ref (.skip (.skip (h.th))) | exact Thin.ref (.skip (.skip (.skip (h.th)))) | exact Thin.ref (.skip (.skip (.skip (.skip (h.th))))) | exact ⟨rfl, oneAll_of rfl⟩ | exact oneAll_of rfl | exact rfl | exact ⟨rfl, rfl, rfl, rfl⟩ | exact ⟨rfl, rfl, rfl, rfl, rfl⟩ | exact ⟨by unfold maxLen; omega, by omega⟩ | omega) ?_ | intro _)); refine VC_can (t := tr_evergreenref12_Add_24) _ _ (by (repeat ((conv => whnf); refine And.intro (by first | exact rfl | exact vint_eq (by omega) | exact vint_eq (by (dsimp only; omega)) | exact vsl_eq (by omega) | exact vsl_eq (by first | (dsimp only; omega) | (simp; done) | (simp; omega))) ?_)); exact trivial) (Thin.ref (.own (by omega) rfl (.own (by omega) rfl (Thin.refl _)))) (add_24 h _ _ _)
  (repeat' ((conv => whnf); first | refine ⟨xs, h.rs _, ?_⟩ | refine ⟨ys, h.rl _, ?_⟩ | refine And.intro (by first | exact o1 | exact o2 | exact fun _ => Thin.ref (.skip (h.th)) | exact fun _ => Thin.ref (.skip (.skip (h.th))) | exact fun _ => Thin.ref (.skip (.skip (.skip (h.th)))) | exact fun _ => Thin.ref (.skip (.skip (.skip (.skip (h.th))))) | exact Thin.ref (.skip (h.th)) | exact Thin.ref (.skip (.skip (h.th))) | exact Thin.ref (.skip (.skip (.skip (h.th)))) | exact Thin.ref (.skip (.skip (.skip (.skip (h.th))))) | exact ⟨rfl, oneAll_of rfl⟩ | exact oneAll_of rfl | exact rfl | exact ⟨rfl, rfl, rfl, rfl⟩ | exact ⟨rfl, rfl, rfl, rfl, rfl⟩ | exact ⟨by unfold maxLen; omega, by omega⟩ | omega) ?_ | intro _)); refine VC_can (t := tr_evergreenref12_Add_27) _ _ (by (repeat ((conv => whnf); refine And.intro (by first | exact rfl | exact vint_eq (by omega) | exact vint_eq (by (dsimp only; omega)) | exact vsl_eq (by omega) | exact vsl_eq (by first | (dsimp only; omega) | (simp; done) | (simp; omega))) ?_)); exact trivial) ((Ref.perm (.swap _ _ _)).trans (Thin.ref (.own (by omega) rfl (.own (by omega) rfl (Thin.refl _))))) (add_27 h _ _ _)

theorem add_29 (h : AddH w K Lb Lh E r N a1 a2 c1 c2 b6 xs ys) : ∀ (z3 : Option Addr), VT Try.prog w [] ops_evergreenref12_Add_6 K tr_evergreenref12_Add_29 Lb [(38, .sl 38 z3 1 1), (28, .v (.slice a1 E.length c1)), (30, .v (ruV r)), (35, .v (.slice a2 E.length c2)), (37, .v (.int .i64 N)), (44, .v (.int .i64 ((E.length : Int) + 1))), (6, .ptr 6 b6 0)] (.own 38 z3 1 1 ty_int 1 ([.int .i64 N]) :: Lh) := by
  have hE := h.hE
  have o1 := h.o1
  have o2 := h.o2
  intro z3
  (conv => whnf)
  refine stop_and ?_ ?_
  · (repeat' ((conv => whnf); first | refine ⟨xs, h.rs _, ?_⟩ | refine ⟨ys, h.rl _, ?_⟩ | refine And.intro (by first | exact o1 | exact o2 | exact fun _ => Thin.ref (.skip (h.th)) | exact fun _ => Thin.ref (.skip (.skip (h.th))) | exact fun _ => Thin.ref (.skip (.skip (.skip (h.th)))) | exact fun _ => Thin.ref (.skip (.skip (.skip (.skip (h.th))))) | exact Thin.ref (.skip (h.th)) | exact Thin.ref (.skip (.skip (h.th))) | exact Thin.ref (.skip (.skip (.skip (h.th)))) | exact Thin.ref (.skip (.skip (.skip (.skip (h.th))))) | exact ⟨rfl, oneAll_of rfl⟩ | exact oneAll_of rfl | exact rfl | exact ⟨rfl, rfl, rfl, rfl⟩ | exact ⟨rfl, rfl, rfl, rfl, rfl⟩ | exact ⟨by unfold maxLen; omega, by omega⟩ | omega) ?_ | intro _)); refine VC_can (t := tr_evergreenref12_Add_21) _ _ (by (repeat ((conv => whnf); refine And.intro (by first | exact rfl | exact vint_eq (by omega) | exact vint_eq (by (dsimp only; omega)) | exact vsl_eq (by omega) | exact vsl_eq (by first | (dsimp only; omega) | (simp; done) | (simp; omega))) ?_)); exact trivial) (Thin.ref (.own (by omega) rfl (.own (by omega) rfl (Thin.refl _)))) (add_21 h _ _ _)
  (conv => whnf)
  refine stop_and ?_ ?_
  · (repeat' ((conv => whnf); first | refine ⟨xs, h.rs _, ?_⟩ | refine ⟨ys, h.rl _, ?_⟩ | refine And.intro (by first | exact o1 | exact o2 | exact fun _ => Thin.ref (.skip (h.th)) | exact fun _ => Thin.ref (.skip (.skip (h.th))) | exact fun _ => Thin.ref (.skip (.skip (.skip (h.th)))) | exact fun _ => Thin.ref (.skip (.skip (.skip (.skip (h.th))))) | exact Thin.ref (.skip (h.th)) | exact Thin.ref (.skip (.skip (h.th))) | exact Thin.ref (.skip (.skip (.skip (h.th)))) | exact Thin.ref (.skip (.skip (.skip (.skip (h.th))))) | exact ⟨rfl, oneAll_of rfl⟩ | exact oneAll_of rfl | exact rfl | exact ⟨rfl, rfl, rfl, rfl⟩ | exact ⟨rfl, rfl, rfl, rfl, rfl⟩ | exact ⟨by unfold maxLen; omega, by omega⟩ | omega) ?_ | intro _)); refine VC_can (t := tr_evergreenref12_Add_25) _ _ (by (repeat ((conv => whnf); refine And.intro (by first | exact rfl | exact vint_eq (by omega) | exact vint_eq (by (dsimp only; omega)) | exact vsl_eq (by omega) | exact vsl_eq (by first | (dsimp only; omega) | (simp; done) | (simp; omega))) ?_)); exact trivial) (Thin.ref (.own (by omega) rfl (.own (by omega) rfl (Thin.refl _)))) (add_25 h _ _)
  (repeat' ((conv => whnf); first | refine ⟨xs, h.rs _, ?_⟩ | refine ⟨ys, h.rl _, ?_⟩ | refine And.intro (by first | exact o1 | exact o2 | exact fun _ => Thin.ref (.skip (h.th)) | exact fun _ => Thin.ref (.skip (.skip (h.th))) | exact fun _ => Thin.ref (.skip (.skip (.skip (h.th)))) | exact fun _ => Thin.ref (.skip (.skip (.skip (.skip (h.th))))) | exact Thin.ref (.skip (h.th)) | exact Thin.ref (.skip (.skip (h.th))) | exact Thin.ref (.skip (.skip (.skip (h.th)))) | exact Thin.ref (.skip (.skip (.skip (.skip (h.th))))) | exact ⟨rfl, oneAll_of rfl⟩ | exact oneAll_of rfl | exact rfl | exact ⟨rfl, rfl, rfl, rfl⟩ | exact ⟨rfl, rfl, rfl, rfl, rfl⟩ | exact ⟨by unfold maxLen; omega, by omega⟩ | omega) ?_ | intro _)); refine VC_can (t := tr_evergreenref12_Add_27) _ _ (by (repeat ((conv => whnf); refine And.intro (by first | exact rfl | exact vint_eq (by omega) | exact vint_eq (by (dsimp only; omega)) | exact vsl_eq (by omega) | exact vsl_eq (by first | (dsimp only; omega) | (simp; done) | (simp; omega))) ?_)); exact trivial) (Thin.ref (.own (by omega) rfl (.own (by omega) rfl (Thin.refl _)))) (add_27 h _ _ _)

theorem add_30 (h : AddH w K Lb Lh E r N a1 a2 c1 c2 b6 xs ys) : VT Try.prog w [] ops_evergreenref12_Add_6 K tr_evergreenref12_Add_30 Lb [(28, .v (.slice a1 E.length c1)), (30, .v (ruV r)), (35, .v (.slice a2 E.length c2)), (37, .v (.int .i64 N)), (44, .v (.int .i64 ((E.length : Int) + 1))), (6, .ptr 6 b6 0)] (Lh) := by
  have hE := h.hE
  have o1 := h.o1
  have o2 := h.o2

  (conv => whnf)
  refine stop_and ?_ ?_
  · (repeat' ((conv => whnf); first | refine ⟨xs, h.rs _, ?_⟩ | refine ⟨ys, h.rl _, ?_⟩ | refine And.intro (by first | exact o1 | exact o2 | exact fun _ => Thin.ref (.skip (h.th)) | exact fun _ => Thin.ref (.skip (.skip (h.th))) | exact fun _ => Thin.ref (.skip (.skip (.skip (h.th)))) | exact fun _ => Thin.ref (.skip (.skip (.skip (.skip (h.th))))) | exact Thin.ref (.skip (h.th)) | exact Thin.ref (.skip (.skip (h.th))) | exact Thin.ref (.skip (.skip (.skip (h.th)))) | exact Thin.ref (.skip (.skip (.skip (.skip (h.th))))) | exact ⟨rfl, oneAll_of rfl⟩ | exact oneAll_of rfl | exact rfl | exact ⟨rfl, rfl, rfl, rfl⟩ | exact ⟨rfl, rfl, rfl, rfl, rfl⟩ | exact ⟨by unfold maxLen; omega, by omega⟩ | omega) ?_ | intro _)); refine VC_can (t := tr_evergreenref12_Add_22) _ _ (by (repeat ((conv => whnf); refine And.intro (by first | exact rfl | exact vint_eq (by omega) | exact vint_eq (by (dsimp only; omega)) | exact vsl_eq (by omega) | exact vsl_eq (by first | (dsimp only; omega) | (simp; done) | (simp; omega))) ?_)); exact trivial) (Thin.ref (.own (by omega) rfl (Thin.refl _))) (add_22 h _ _)
  (conv => whnf)
  refine stop_and ?_ ?_
  · (repeat' ((conv => whnf); first | refine ⟨xs, h.rs _, ?_⟩ | refine ⟨ys, h.rl _, ?_⟩ | refine And.intro (by first | exact o1 | exact o2 | exact fun _ => Thin.ref (.skip (h.th)) | exact fun _ => Thin.ref (.skip (.skip (h.th))) | exact fun _ => Thin.ref (.skip (.skip (.skip (h.th)))) | exact fun _ => Thin.ref (.skip (.skip (.skip (.skip (h.th))))) | exact Thin.ref (.skip (h.th)) | exact Thin.ref (.skip (.skip (h.th))) | exact Thin.ref (.skip (.skip (.skip (h.th)))) | exact Thin.ref (.skip (.skip (.skip (.skip (h.th))))) | exact ⟨rfl, oneAll_of rfl⟩ | exact oneAll_of rfl | exact rfl | exact ⟨rfl, rfl, rfl, rfl⟩ | exact ⟨rfl, rfl, rfl, rfl, rfl⟩ | exact ⟨by unfold maxLen; omega, by omega⟩ | omega) ?_ | intro _)); refine VC_can (t := tr_evergreenref12_Add_26) _ _ (by (repeat ((conv => whnf); refine And.intro (by first | exact rfl | exact vint_eq (by omega) | exact vint_eq (by (dsimp only; omega)) | exact vsl_eq (by omega) | exact vsl_eq (by first | (dsimp only; omega) | (simp; done) | (simp; omega))) ?_)); exact trivial) (Thin.ref (.own (by omega) rfl (Thin.refl _))) (add_26 h _)
  (conv => whnf)
  refine stop_and ?_ ?_
  · (repeat' ((conv => whnf); first | refine ⟨xs, h.rs _, ?_⟩ | refine ⟨ys, h.rl _, ?_⟩ | refine And.intro (by first | exact o1 | exact o2 | exact fun _ => Thin.ref (.skip (h.th)) | exact fun _ => Thin.ref (.skip (.skip (h.th))) | exact fun _ => Thin.ref (.skip (.skip (.skip (h.th)))) | exact fun _ => Thin.ref (.skip (.skip (.skip (.skip (h.th))))) | exact Thin.ref (.skip (h.th)) | exact Thin.ref (.skip (.skip (h.th))) | exact Thin.ref (.skip (.skip (.skip (h.th)))) | exact Thin.ref (.skip (.skip (.skip (.skip (h.th))))) | exact ⟨rfl, oneAll_of rfl⟩ | exact oneAll_of rfl | exact rfl | exact ⟨rfl, rfl, rfl, rfl⟩ | exact ⟨rfl, rfl, rfl, rfl, rfl⟩ | exact ⟨by unfold maxLen; omega, by omega⟩ | omega) ?_ | intro _)); refine VC_can (t := tr_evergreenref12_Add_28) _ _ (by (repeat ((conv => whnf); refine And.intro (by first | exact rfl | exact vint_eq (by omega) | exact vint_eq (by (dsimp only; omega)) | exact vsl_eq (by omega) | exact vsl_eq (by first | (dsimp only; omega) | (simp; done) | (simp; omega))) ?_)); exact trivial) (Thin.ref (.own (by omega) rfl (Thin.refl _))) (add_28 h _ _)
  (repeat' ((conv => whnf); first | refine ⟨xs, h.rs _, ?_⟩ | refine ⟨ys, h.rl _, ?_⟩ | refine And.intro (by first | exact o1 | exact o2 | exact fun _ => Thin.ref (.skip (h.th)) | exact fun _ => Thin.ref (.skip (.skip (h.th))) | exact fun _ => Thin.ref (.skip (.skip (.skip (h.th)))) | exact fun _ => Thin.ref (.skip (.skip (.skip (.skip (h.th))))) | exact Thin.ref (.skip (h.th)) | exact Thin.ref (.skip (.skip (h.th))) | exact Thin.ref (.skip (.skip (.skip (h.th)))) | exact Thin.ref (.skip (.skip (.skip (.skip (h.th))))) | exact ⟨rfl, oneAll_of rfl⟩ | exact oneAll_of rfl | exact rfl | exact ⟨rfl, rfl, rfl, rfl⟩ | exact ⟨rfl, rfl, rfl, rfl, rfl⟩ | exact ⟨by unfold maxLen; omega, by omega⟩ | omega) ?_ | intro _)); refine VC_can (t := tr_evergreenref12_Add_29) _ _ (by (repeat ((conv => whnf); refine And.intro (by first | exact rfl | exact vint_eq (by omega) | exact vint_eq (by (dsimp only; omega)) | exact vsl_eq (by omega) | exact vsl_eq (by first | (dsimp only; omega) | (simp; done) | (simp; omega))) ?_)); exact trivial) (Thin.ref (.own (by omega) rfl (Thin.refl _))) (add_29 h _)

end
end Go.Proofs.Ytohlphngnhcbfaa
/- A rule is added to the reference's list. -/
namespace Go.Proofs.Ytohlphngnhcbfaa
open Go.EG
attribute [local irreducible] CallK QCall Go.Calls
set_option linter.unusedSimpArgs false
set_option linter.unusedVariables false
set_option maxRecDepth 20000
set_option maxHeartbeats 4000000

theorem rul_ext {r r' : Rul} (h : r ≠ r') : ¬ (r.k = r'.k ∧ r.l = r'.l ∧ r.a = r'.a ∧ r.b = r'.b ∧ r.t = r'.t) := fun ⟨h1, h2, h3, h4, h5⟩ => h (by cases r; cases r'; simp_all)
theorem calls_rAdd {a1 a2 : Option Addr} {c1 c2 : Nat} (E : List Entr) (hE : E.length ≤ 1048576) (r : Rul) (n : Nat) (hn : (mkT E r).len = n) (w : World) (h1 : In w [] a1 (ruE E)) (h2 : In w [] a2 (leE E)) :
    Calls Try.prog fn_evergreenref12_Add #[stV E.length a1 c1 a2 c2, ruV r, .int .i64 n] w fun e w' => ∃ v L1, e = .returned v ∧ R w [] L1 w' ∧ oneQ E (putF E r).1 (putF E r).2 a1 c1 a2 c2 v L1 := by
  refine new_call [.v (stV E.length a1 c1 a2 c2), .v (ruV r), .v (.int .i64 n)] ok_evergreenref12_Add (by simp) ?_
  have rs := fun {L : List Ent} => h1.rds (L := L) (n := E.length * 5) (by rw [ruE_length])
  have rl := fun {L : List Ent} => h2.rds (L := L) (n := E.length * 1) (by rw [leE_length, Nat.mul_one])
  have o1 := oneAll_ru E
  have o2 : oneAll (leE E) := oneAll_ints' .i64 (lensI (E.map (·.m)))
  have s1 := ruE_snoc E (mkE E r)
  have s2 := leE_snoc E (mkE E r)
  rw [show (mkE E r).r = r from rfl] at s1
  rw [show (mkE E r).m = mkT E r from rfl, hn] at s2
  have hlen : (E ++ [mkE E r]).length = E.length + 1 := by simp
  have hne : ∀ i, i < E.length → a1 ≠ none := fun i hi => h1.ne' (k := i * 5) (by rw [ruE_length]; omega)
  have hrd := fun {L : List Ent} (i : Nat) (hi : i < E.length) => In.rdn (L := L) (vs := ruC (E.getD i ent0).r) (k := i * 5) h1 (Nat.succ_pos _) (ruE_at hi)
  (repeat' ((conv => whnf); first | (refine bcase_prop (fun h => ?_) (fun h => ?_) <;> try (exfalso; omega)) | (refine bcase_nprop (fun h => ?_) (fun h => ?_) <;> try (exfalso; omega)) | (refine bcase_intro (fun h => ?_) (fun h => ?_) <;> (try simp only [Bool.not_eq_true', Bool.not_eq_false', decide_eq_true_eq, decide_eq_false_iff_not, Bool.not_eq_true, Bool.not_eq_false, Decidable.not_not] at h)) | refine And.intro (by first | omega | exact rfl | assumption | exact ⟨rfl, rfl, rfl, rfl, rfl⟩ | exact ⟨rfl, rfl, rfl, rfl⟩ | exact ⟨rfl, by omega⟩ | exact oneAll_of rfl | exact ⟨rfl, oneAll_of rfl⟩ | exact Ref.refl _ | exact Thin.ref (.skip (Thin.refl _)) | exact Thin.ref (.skip (.skip (Thin.refl _))) | exact ⟨rfl, Nat.le_of_ble_eq_true rfl⟩ | ((try unfold maxLen); (try simp only [List.length_nil, List.length_cons, List.length_append]); omega) | (refine ⟨rfl, ?_⟩; (try simp only [List.length_nil, List.length_cons, List.length_append]); omega)) ?_ | intro _)); (all_goals (conv => whnf))
  rename_i b3 b4 b6
  refine VC_loop Nat (fun i => [(2, .v (.int .i64 n)), (3, .ptr 3 b3 0), (4, .ptr 4 b4 0), (6, .ptr 6 b6 0), (7, .v (.int .i64 0)), (8, .v (.int .i64 i))]) (fun _ => [.box 6 b6 [.slice none 0 0, .slice none 0 0] ty_evergreenref12_Store, .box 4 b4 (ruC r) ty_api_Rule, .box 3 b3 [.slice a1 E.length c1, .slice a2 E.length c2] ty_evergreenref12_Store])
    (fun i => i ≤ E.length ∧ idOf r E = idx r i (E.drop i)) (fun i => E.length - i) 0 ⟨Nat.zero_le _, rfl⟩ (by (repeat ((conv => whnf); refine And.intro (by first | exact rfl | exact vint_eq (by omega) | exact vint_eq (by (dsimp only; omega)) | exact vsl_eq (by omega) | exact vsl_eq (by first | (dsimp only; omega) | (simp; done) | (simp; omega))) ?_)); exact trivial) (.refl _) ?_
  rintro i ⟨hi, hid⟩
  by_cases hlt : i < E.length
  · rw [drop_cons (d := ent0) hlt] at hid
    have hr := fun {L : List Ent} => hrd (L := L) i hlt
    have hn0 := hne i hlt
    by_cases hx : (E.getD i ent0).r = r
    · have hid : idOf r E = i + 1 := hid.trans (if_pos hx.symm)
      rw [hx] at hr
      have hp : putF E r = (E, ((idOf r E : Nat) : Int)) := if_neg (by omega)
      rw [hp]
      (repeat' ((conv => whnf); first | rw [Int.toNat_natCast] | refine ⟨ruC r, rfl, hr, ?_⟩ | refine ⟨.v _, ⟨rfl, trivial⟩, ?_⟩ | (refine bcase_prop (fun h => ?_) (fun h => ?_) <;> try (exfalso; omega)) | (refine bcase_nprop (fun h => ?_) (fun h => ?_) <;> try (exfalso; omega)) | (refine bcase_intro (fun h => ?_) (fun h => ?_) <;> (try simp only [Bool.not_eq_true', Bool.not_eq_false', decide_eq_true_eq, decide_eq_false_iff_not, Bool.not_eq_true, Bool.not_eq_false, Decidable.not_not] at h)) | refine And.intro (by first | omega | exact rfl | assumption | exact ⟨rfl, rfl, rfl, rfl, rfl⟩ | exact ⟨rfl, rfl, rfl, rfl⟩ | exact ⟨rfl, by omega⟩ | exact oneAll_of rfl | exact ⟨rfl, oneAll_of rfl⟩ | exact Ref.refl _ | exact Thin.ref (.skip (Thin.refl _)) | exact Thin.ref (.skip (.skip (Thin.refl _))) | exact ⟨rfl, Nat.le_of_ble_eq_true rfl⟩ | ((try unfold maxLen); (try simp only [List.length_nil, List.length_cons, List.length_append]); omega) | (refine ⟨rfl, ?_⟩; (try simp only [List.length_nil, List.length_cons, List.length_append]); omega)) ?_ | intro _)); (all_goals (conv => whnf))
      refine ⟨endOld rfl ?_⟩
      rw [hid]; rfl
    · have hid : idOf r E = idx r (i + 1) (E.drop (i + 1)) := hid.trans (if_neg (fun h => hx h.symm))
      have hx' := rul_ext hx
      generalize (E.getD i ent0).r = q at *
      (repeat' ((conv => whnf); first | rw [Int.toNat_natCast] | refine ⟨ruC q, rfl, hr, ?_⟩ | refine ⟨.v _, ⟨rfl, trivial⟩, ?_⟩ | (refine bcase_prop (fun h => ?_) (fun h => ?_) <;> try (exfalso; omega)) | (refine bcase_nprop (fun h => ?_) (fun h => ?_) <;> try (exfalso; omega)) | (refine bcase_intro (fun h => ?_) (fun h => ?_) <;> (try simp only [Bool.not_eq_true', Bool.not_eq_false', decide_eq_true_eq, decide_eq_false_iff_not, Bool.not_eq_true, Bool.not_eq_false, Decidable.not_not] at h)) | refine And.intro (by first | omega | exact rfl | assumption | exact ⟨rfl, rfl, rfl, rfl, rfl⟩ | exact ⟨rfl, rfl, rfl, rfl⟩ | exact ⟨rfl, by omega⟩ | exact oneAll_of rfl | exact ⟨rfl, oneAll_of rfl⟩ | exact Ref.refl _ | exact Thin.ref (.skip (Thin.refl _)) | exact Thin.ref (.skip (.skip (Thin.refl _))) | exact ⟨rfl, Nat.le_of_ble_eq_true rfl⟩ | ((try unfold maxLen); (try simp only [List.length_nil, List.length_cons, List.length_append]); omega) | (refine ⟨rfl, ?_⟩; (try simp only [List.length_nil, List.length_cons, List.length_append]); omega)) ?_ | intro _)); (all_goals (conv => whnf))
      all_goals (refine loop_next (i + 1) ⟨hlt, hid⟩ (by ((try dsimp only); omega)) (by (repeat ((conv => whnf); refine And.intro (by first | exact rfl | exact vint_eq (by omega) | exact vint_eq (by (dsimp only; omega)) | exact vsl_eq (by omega) | exact vsl_eq (by first | (dsimp only; omega) | (simp; done) | (simp; omega))) ?_)); exact trivial) (Thin.ref (by (repeat (first | exact Thin.nil _ | exact Thin.refl _ | refine Thin.keep rfl (fun _ h => h) ?_ | refine Thin.skip ?_)))))
  · rw [show E.drop i = [] from List.drop_eq_nil_of_le (by omega)] at hid
    have hid : idOf r E = 0 := hid
    have hp : putF E r = (E ++ [mkE E r], ((E.length + 1 : Nat) : Int)) := if_pos hid
    rw [hp]
    clear hne hrd hid hp
    have lx : (ruE E).length = E.length * 5 := ruE_length E
    generalize ruE E = xs at *
    generalize leE E = ys at *
    (repeat' ((conv => whnf); first | refine VC_drop 6 ?_ | refine ⟨.v _, ⟨rfl, trivial⟩, ?_⟩ | (refine bcase_prop (fun h => ?_) (fun h => ?_) <;> try (exfalso; omega)) | (refine bcase_nprop (fun h => ?_) (fun h => ?_) <;> try (exfalso; omega)) | (refine bcase_intro (fun h => ?_) (fun h => ?_) <;> (try simp only [Bool.not_eq_true', Bool.not_eq_false', decide_eq_true_eq, decide_eq_false_iff_not, Bool.not_eq_true, Bool.not_eq_false, Decidable.not_not] at h)) | refine And.intro (by first | omega | exact rfl | assumption | exact ⟨rfl, rfl, rfl, rfl, rfl⟩ | exact ⟨rfl, rfl, rfl, rfl⟩ | exact ⟨rfl, by omega⟩ | exact oneAll_of rfl | exact ⟨rfl, oneAll_of rfl⟩ | exact Ref.refl _ | exact Thin.ref (.skip (Thin.refl _)) | exact Thin.ref (.skip (.skip (Thin.refl _))) | exact ⟨rfl, Nat.le_of_ble_eq_true rfl⟩ | ((try unfold maxLen); (try simp only [List.length_nil, List.length_cons, List.length_append]); omega) | (refine ⟨rfl, ?_⟩; (try simp only [List.length_nil, List.length_cons, List.length_append]); omega)) ?_ | intro _)); (all_goals (conv => whnf))
    refine VC_can _ _ (by (repeat ((conv => whnf); refine And.intro (by first | exact rfl | exact vint_eq (by omega) | exact vint_eq (by (dsimp only; omega)) | exact vsl_eq (by omega) | exact vsl_eq (by first | (dsimp only; omega) | (simp; done) | (simp; omega))) ?_)); exact trivial) (Ref.refl _) (add_30 (E := E) (r := r) (N := n) (a1 := a1) (a2 := a2) (c1 := c1) (c2 := c2) (b6 := b6) (xs := xs) (ys := ys) ⟨hE, Thin.skip (Thin.refl _), o1, o2, fun L => rs, fun L => rl, lx, ?_⟩)
    intro q1 q2 z1 z2
    (repeat' ((conv => whnf); first | (refine bcase_prop (fun h => ?_) (fun h => ?_) <;> try (exfalso; omega)) | (refine bcase_nprop (fun h => ?_) (fun h => ?_) <;> try (exfalso; omega)) | (refine bcase_intro (fun h => ?_) (fun h => ?_) <;> (try simp only [Bool.not_eq_true', Bool.not_eq_false', decide_eq_true_eq, decide_eq_false_iff_not, Bool.not_eq_true, Bool.not_eq_false, Decidable.not_not] at h)) | refine And.intro (by first | omega | exact rfl | assumption | exact ⟨rfl, rfl, rfl, rfl, rfl⟩ | exact ⟨rfl, rfl, rfl, rfl⟩ | exact ⟨rfl, by omega⟩ | exact oneAll_of rfl | exact ⟨rfl, oneAll_of rfl⟩ | exact Ref.refl _ | exact Thin.ref (.skip (Thin.refl _)) | exact Thin.ref (.skip (.skip (Thin.refl _))) | exact Thin.ref (.skip (.skip (.skip (Thin.refl _)))) | exact ⟨rfl, Nat.le_of_ble_eq_true rfl⟩ | ((try unfold maxLen); (try simp only [List.length_nil, List.length_cons, List.length_append]); omega) | (refine ⟨rfl, ?_⟩; (try simp only [List.length_nil, List.length_cons, List.length_append]); omega)) ?_ | intro _)); (all_goals (conv => whnf))
    all_goals exact ⟨endNew 26 33 rfl rfl (by rw [hlen]) (by rw [← s1]) (by rw [hlen]) (by rw [← s2]) (by omega) rfl⟩
end Go.Proofs.Ytohlphngnhcbfaa
/- Lists of makes: one make, a list, by the reference. -/
namespace Go.Proofs.Ytohlphngnhcbfaa
open Go.EG
attribute [local irreducible] CallK QCall Go.Calls
set_option linter.unusedSimpArgs false
set_option linter.unusedVariables false
set_option maxRecDepth 20000
set_option maxHeartbeats 4000000

/-- A make's fields. -/
structure MakB (m : Rul) : Prop where
  k : -9223372036854775808 ≤ m.k ∧ m.k ≤ 9223372036854775807
  l : 0 ≤ m.l ∧ m.l < 256
  a : -9223372036854775808 ≤ m.a ∧ m.a ≤ 9223372036854775807
  b : -9223372036854775808 ≤ m.b ∧ m.b ≤ 9223372036854775807
  t : -9223372036854775808 ≤ m.t ∧ m.t ≤ 9223372036854775807
structure MIn (g : List Rul) : Prop where
  len : g.length * 40 ≤ 140737488355328
  ok : ∀ i, i < g.length → MakB (g.getD i rul0)

theorem len_pair (E : List Entr) (i j : Int) : (mkT E (pairR i j)).len = (tm E i).len + (tm E j).len := by
  show (Tm.pr (tm E i) (tm E j)).len = _
  unfold Tm.len; rw [Tm.txt, List.length_append]
theorem len_pow (E : List Entr) (i k : Int) : (mkT E (powR i k)).len = (tm E i).len * k.toNat := by
  show (Tm.pw (tm E i) k.toNat).len = _
  unfold Tm.len; rw [Tm.txt, len_rep, Nat.mul_comm]

theorem calls_rOne {a1 a2 a3 : Option Addr} {c1 c2 c3 : Nat} {E : List Entr} {res : List Int} (hB : Bld E res) (hE : E.length ≤ 1000) (hres : res.length ≤ 1000) {m : Rul} (hm : MakB m) (w : World) (h1 : In w [] a1 (ruE E)) (h2 : In w [] a2 (leE E)) (h3 : In w [] a3 (ints .i64 res)) :
    Calls Try.prog fn_evergreenref12_One #[stV E.length a1 c1 a2 c2, ruV m, .slice a3 res.length c3] w fun e w' => ∃ v L1, e = .returned v ∧ R w [] L1 w' ∧ oneQ E (oneF E m res).1 (oneF E m res).2 a1 c1 a2 c2 v L1 := by
  refine new_call [.v (stV E.length a1 c1 a2 c2), .v (ruV m), .v (.slice a3 res.length c3)] ok_evergreenref12_One (by simp) ?_
  have p1 := calls_Pick m.a res.length hB.ne (by omega) hm.a
  have p2 := calls_Pick m.b res.length hB.ne (by omega) hm.b
  have p3 := calls_Pick m.k 4 (by decide) (by decide) hm.k
  have i1 := pickF_lt (n := m.a) hB.ne
  have i2 := pickF_lt (n := m.b) hB.ne
  have pa := hB.pick m.a
  have pb := hB.pick m.b
  have rd1 := fun {L : List Ent} => rdI (L := L) h3 i1
  have rd2 := fun {L : List Ent} => rdI (L := L) h3 i2
  have n3 : a3 ≠ none := neI h3 hB.ne
  have hl1 := hB.wf.le (n := res.getD (pickF m.a res.length) 0) pa.2
  have hl2 := hB.wf.le (n := res.getD (pickF m.b res.length) 0) pb.2
  have q1 := hB.wf.pos1 (n := res.getD (pickF m.a res.length) 0)
  dsimp only at hl1 hl2 q1
  unfold oneF
  generalize pickF m.a res.length = ia at *
  generalize pickF m.b res.length = ib at *
  generalize res.getD ia 0 = x at *
  generalize res.getD ib 0 = y at *
  generalize pickF m.k 4 = kk at *
  have L1 := calls_Length (a1 := a1) (c1 := c1) (a2 := a2) (c2 := c2) E (by omega) pa.1 pa.2
  have L2 := calls_Length (a1 := a1) (c1 := c1) (a2 := a2) (c2 := c2) E (by omega) pb.1 pb.2
  by_cases k0 : kk = 0
  · subst k0
    rw [if_pos rfl]
    obtain ⟨l, hl⟩ : ∃ l : Nat, m.l = l := ⟨m.l.toNat, by have := hm.l; omega⟩
    rw [hl, Int.toNat_natCast]
    have cA := calls_rAdd (a1 := a1) (c1 := c1) (a2 := a2) (c2 := c2) E (by omega) (letR l) 1 rfl
    (repeat' ((conv => whnf); first | rw [hl] | rw [Int.toNat_natCast] | rw [Nat.mul_one] | (first | refine CallK_pure (.v _) (fun w hR => p1 w) ?_ | refine QCall_pure (.v _) (fun w hR => p1 w) ?_) | (first | refine CallK_pure (.v _) (fun w hR => p2 w) ?_ | refine QCall_pure (.v _) (fun w hR => p2 w) ?_) | (first | refine CallK_pure (.v _) (fun w hR => p3 w) ?_ | refine QCall_pure (.v _) (fun w hR => p3 w) ?_) | refine ⟨_, rd1, ?_⟩ | refine ⟨_, rd2, ?_⟩ | refine ⟨.v _, ⟨rfl, trivial⟩, ?_⟩ | ((refine CallK_new (fun w hR => cA w (h1.cast hR (by simp)) (h2.cast hR (by simp))) ?_; rintro _ _ (⟨hq, rfl, rfl⟩ | ⟨a1', c1', a2', c2', rfl, rfl⟩)) <;> refine ⟨.v _, rfl, ?_⟩) | (refine bcase_prop (fun h => ?_) (fun h => ?_) <;> try (exfalso; omega)) | (refine bcase_nprop (fun h => ?_) (fun h => ?_) <;> try (exfalso; omega)) | (refine bcase_intro (fun h => ?_) (fun h => ?_) <;> (try simp only [Bool.not_eq_true', Bool.not_eq_false', decide_eq_true_eq, decide_eq_false_iff_not, Bool.not_eq_true, Bool.not_eq_false, Decidable.not_not] at h)) | refine And.intro (by first | omega | exact rfl | assumption | exact ⟨rfl, rfl, rfl, rfl, rfl⟩ | exact ⟨rfl, rfl, rfl, rfl⟩ | exact ⟨rfl, by omega⟩ | exact oneAll_of rfl | exact ⟨rfl, oneAll_of rfl⟩ | exact Ref.refl _ | exact Thin.ref (.skip (Thin.refl _)) | exact Thin.ref (.skip (.skip (Thin.refl _))) | exact n3 | exact ⟨rfl, Nat.le_of_ble_eq_true rfl⟩ | ((try unfold maxLen); (try simp only [List.length_nil, List.length_cons, List.length_append]); omega) | (refine ⟨rfl, ?_⟩; (try simp only [List.length_nil, List.length_cons, List.length_append]); omega)) ?_ | intro _)); (all_goals (conv => whnf))
    all_goals first | exact ⟨endOld hq rfl⟩ | exact ⟨endNew 801 802 rfl rfl rfl rfl rfl rfl rfl rfl⟩
  · rw [if_neg k0]
    by_cases k3 : kk = 3
    · subst k3
      rw [if_pos rfl]
      by_cases hx : x = 0
      · rw [if_pos (.inl hx)]
        subst hx
        (repeat' ((conv => whnf); first | rw [Int.toNat_natCast] | rw [Nat.mul_one] | (first | refine CallK_pure (.v _) (fun w hR => p1 w) ?_ | refine QCall_pure (.v _) (fun w hR => p1 w) ?_) | (first | refine CallK_pure (.v _) (fun w hR => p2 w) ?_ | refine QCall_pure (.v _) (fun w hR => p2 w) ?_) | (first | refine CallK_pure (.v _) (fun w hR => p3 w) ?_ | refine QCall_pure (.v _) (fun w hR => p3 w) ?_) | refine ⟨_, rd1, ?_⟩ | refine ⟨_, rd2, ?_⟩ | refine ⟨.v _, ⟨rfl, trivial⟩, ?_⟩ | refine CallK_pure (.v _) (fun w hR => L1 w (h2.cast hR (by simp))) ?_ | (refine bcase_prop (fun h => ?_) (fun h => ?_) <;> try (exfalso; omega)) | (refine bcase_nprop (fun h => ?_) (fun h => ?_) <;> try (exfalso; omega)) | (refine bcase_intro (fun h => ?_) (fun h => ?_) <;> (try simp only [Bool.not_eq_true', Bool.not_eq_false', decide_eq_true_eq, decide_eq_false_iff_not, Bool.not_eq_true, Bool.not_eq_false, Decidable.not_not] at h)) | refine And.intro (by first | omega | exact rfl | assumption | exact ⟨rfl, rfl, rfl, rfl, rfl⟩ | exact ⟨rfl, rfl, rfl, rfl⟩ | exact ⟨rfl, by omega⟩ | exact oneAll_of rfl | exact ⟨rfl, oneAll_of rfl⟩ | exact Ref.refl _ | exact Thin.ref (.skip (Thin.refl _)) | exact Thin.ref (.skip (.skip (Thin.refl _))) | exact n3 | exact ⟨rfl, Nat.le_of_ble_eq_true rfl⟩ | ((try unfold maxLen); (try simp only [List.length_nil, List.length_cons, List.length_append]); omega) | (refine ⟨rfl, ?_⟩; (try simp only [List.length_nil, List.length_cons, List.length_append]); omega)) ?_ | intro _)); (all_goals (conv => whnf))
        all_goals exact ⟨endOld rfl rfl⟩
      · have hp := q1 (by omega) pa.2
        by_cases ht : m.t ≤ 0
        · rw [if_pos (.inr (.inl ht))]
          (repeat' ((conv => whnf); first | rw [Int.toNat_natCast] | rw [Nat.mul_one] | (first | refine CallK_pure (.v _) (fun w hR => p1 w) ?_ | refine QCall_pure (.v _) (fun w hR => p1 w) ?_) | (first | refine CallK_pure (.v _) (fun w hR => p2 w) ?_ | refine QCall_pure (.v _) (fun w hR => p2 w) ?_) | (first | refine CallK_pure (.v _) (fun w hR => p3 w) ?_ | refine QCall_pure (.v _) (fun w hR => p3 w) ?_) | refine ⟨_, rd1, ?_⟩ | refine ⟨_, rd2, ?_⟩ | refine ⟨.v _, ⟨rfl, trivial⟩, ?_⟩ | refine CallK_pure (.v _) (fun w hR => L1 w (h2.cast hR (by simp))) ?_ | (refine bcase_prop (fun h => ?_) (fun h => ?_) <;> try (exfalso; omega)) | (refine bcase_nprop (fun h => ?_) (fun h => ?_) <;> try (exfalso; omega)) | (refine bcase_intro (fun h => ?_) (fun h => ?_) <;> (try simp only [Bool.not_eq_true', Bool.not_eq_false', decide_eq_true_eq, decide_eq_false_iff_not, Bool.not_eq_true, Bool.not_eq_false, Decidable.not_not] at h)) | refine And.intro (by first | omega | exact rfl | assumption | exact ⟨rfl, rfl, rfl, rfl, rfl⟩ | exact ⟨rfl, rfl, rfl, rfl⟩ | exact ⟨rfl, by omega⟩ | exact oneAll_of rfl | exact ⟨rfl, oneAll_of rfl⟩ | exact Ref.refl _ | exact Thin.ref (.skip (Thin.refl _)) | exact Thin.ref (.skip (.skip (Thin.refl _))) | exact n3 | exact ⟨rfl, Nat.le_of_ble_eq_true rfl⟩ | ((try unfold maxLen); (try simp only [List.length_nil, List.length_cons, List.length_append]); omega) | (refine ⟨rfl, ?_⟩; (try simp only [List.length_nil, List.length_cons, List.length_append]); omega)) ?_ | intro _)); (all_goals (conv => whnf))
          all_goals first | exact ⟨endOld rfl rfl⟩ | (exfalso; omega)
        · obtain ⟨t, htn⟩ : ∃ t : Nat, m.t = t := ⟨m.t.toNat, by omega⟩
          rw [htn, Int.toNat_natCast]
          have hdiv : (1152921504606846976 : Int) / ((tm E x).len : Int) = ((1152921504606846976 / (tm E x).len : Nat) : Int) := by rw [Int.natCast_ediv]; rfl
          have hiff : t ≤ 1152921504606846976 / (tm E x).len ↔ (tm E x).len * t ≤ LM := by
            rw [Nat.le_div_iff_mul_le (by omega), Nat.mul_comm]
          have cA := calls_rAdd (a1 := a1) (c1 := c1) (a2 := a2) (c2 := c2) E (by omega) (powR x t) ((tm E x).len * t) (by rw [len_pow]; rfl)
          have hmul : ((tm E x).len : Int) * (t : Int) = (((tm E x).len * t : Nat) : Int) := by simp
          have htb := hm.t
          generalize (tm E x).len = ln at *
          generalize ln * t = p at *
          unfold LM at *
          generalize 1152921504606846976 / ln = dd at *
          by_cases hlong : 1152921504606846976 < p
          · rw [if_pos (.inr (.inr hlong))]
            (repeat' ((conv => whnf); first | rw [hdiv] | rw [htn] | rw [Int.toNat_natCast] | rw [Nat.mul_one] | (first | refine CallK_pure (.v _) (fun w hR => p1 w) ?_ | refine QCall_pure (.v _) (fun w hR => p1 w) ?_) | (first | refine CallK_pure (.v _) (fun w hR => p2 w) ?_ | refine QCall_pure (.v _) (fun w hR => p2 w) ?_) | (first | refine CallK_pure (.v _) (fun w hR => p3 w) ?_ | refine QCall_pure (.v _) (fun w hR => p3 w) ?_) | refine ⟨_, rd1, ?_⟩ | refine ⟨_, rd2, ?_⟩ | refine ⟨.v _, ⟨rfl, trivial⟩, ?_⟩ | refine CallK_pure (.v _) (fun w hR => L1 w (h2.cast hR (by simp))) ?_ | (refine bcase_prop (fun h => ?_) (fun h => ?_) <;> try (exfalso; omega)) | (refine bcase_nprop (fun h => ?_) (fun h => ?_) <;> try (exfalso; omega)) | (refine bcase_intro (fun h => ?_) (fun h => ?_) <;> (try simp only [Bool.not_eq_true', Bool.not_eq_false', decide_eq_true_eq, decide_eq_false_iff_not, Bool.not_eq_true, Bool.not_eq_false, Decidable.not_not] at h)) | refine And.intro (by first | omega | exact rfl | assumption | exact ⟨rfl, rfl, rfl, rfl, rfl⟩ | exact ⟨rfl, rfl, rfl, rfl⟩ | exact ⟨rfl, by omega⟩ | exact oneAll_of rfl | exact ⟨rfl, oneAll_of rfl⟩ | exact Ref.refl _ | exact Thin.ref (.skip (Thin.refl _)) | exact Thin.ref (.skip (.skip (Thin.refl _))) | exact n3 | exact ⟨by omega, by omega, by omega⟩ | exact ⟨rfl, Nat.le_of_ble_eq_true rfl⟩ | ((try unfold maxLen); (try simp only [List.length_nil, List.length_cons, List.length_append]); omega) | (refine ⟨rfl, ?_⟩; (try simp only [List.length_nil, List.length_cons, List.length_append]); omega)) ?_ | intro _)); (all_goals (conv => whnf))
            all_goals first | exact ⟨endOld rfl rfl⟩ | (exfalso; omega)
          · rw [if_neg (by omega)]
            by_cases ht1 : (t : Int) = 1
            · rw [if_pos ht1]
              (repeat' ((conv => whnf); first | rw [hdiv] | rw [htn] | rw [Int.toNat_natCast] | rw [Nat.mul_one] | (first | refine CallK_pure (.v _) (fun w hR => p1 w) ?_ | refine QCall_pure (.v _) (fun w hR => p1 w) ?_) | (first | refine CallK_pure (.v _) (fun w hR => p2 w) ?_ | refine QCall_pure (.v _) (fun w hR => p2 w) ?_) | (first | refine CallK_pure (.v _) (fun w hR => p3 w) ?_ | refine QCall_pure (.v _) (fun w hR => p3 w) ?_) | refine ⟨_, rd1, ?_⟩ | refine ⟨_, rd2, ?_⟩ | refine ⟨.v _, ⟨rfl, trivial⟩, ?_⟩ | refine CallK_pure (.v _) (fun w hR => L1 w (h2.cast hR (by simp))) ?_ | (refine bcase_prop (fun h => ?_) (fun h => ?_) <;> try (exfalso; omega)) | (refine bcase_nprop (fun h => ?_) (fun h => ?_) <;> try (exfalso; omega)) | (refine bcase_intro (fun h => ?_) (fun h => ?_) <;> (try simp only [Bool.not_eq_true', Bool.not_eq_false', decide_eq_true_eq, decide_eq_false_iff_not, Bool.not_eq_true, Bool.not_eq_false, Decidable.not_not] at h)) | refine And.intro (by first | omega | exact rfl | assumption | exact ⟨rfl, rfl, rfl, rfl, rfl⟩ | exact ⟨rfl, rfl, rfl, rfl⟩ | exact ⟨rfl, by omega⟩ | exact oneAll_of rfl | exact ⟨rfl, oneAll_of rfl⟩ | exact Ref.refl _ | exact Thin.ref (.skip (Thin.refl _)) | exact Thin.ref (.skip (.skip (Thin.refl _))) | exact n3 | exact ⟨by omega, by omega, by omega⟩ | exact ⟨rfl, Nat.le_of_ble_eq_true rfl⟩ | ((try unfold maxLen); (try simp only [List.length_nil, List.length_cons, List.length_append]); omega) | (refine ⟨rfl, ?_⟩; (try simp only [List.length_nil, List.length_cons, List.length_append]); omega)) ?_ | intro _)); (all_goals (conv => whnf))
              all_goals first | exact ⟨endOld rfl rfl⟩ | (exfalso; omega)
            · rw [if_neg ht1]
              (repeat' ((conv => whnf); first | rw [hdiv] | rw [hmul] | rw [htn] | rw [Int.toNat_natCast] | rw [Nat.mul_one] | (first | refine CallK_pure (.v _) (fun w hR => p1 w) ?_ | refine QCall_pure (.v _) (fun w hR => p1 w) ?_) | (first | refine CallK_pure (.v _) (fun w hR => p2 w) ?_ | refine QCall_pure (.v _) (fun w hR => p2 w) ?_) | (first | refine CallK_pure (.v _) (fun w hR => p3 w) ?_ | refine QCall_pure (.v _) (fun w hR => p3 w) ?_) | refine ⟨_, rd1, ?_⟩ | refine ⟨_, rd2, ?_⟩ | refine ⟨.v _, ⟨rfl, trivial⟩, ?_⟩ | refine CallK_pure (.v _) (fun w hR => L1 w (h2.cast hR (by simp))) ?_ | ((refine CallK_new (fun w hR => cA w (h1.cast hR (by simp)) (h2.cast hR (by simp))) ?_; rintro _ _ (⟨hq, rfl, rfl⟩ | ⟨a1', c1', a2', c2', rfl, rfl⟩)) <;> refine ⟨.v _, rfl, ?_⟩) | (refine bcase_prop (fun h => ?_) (fun h => ?_) <;> try (exfalso; omega)) | (refine bcase_nprop (fun h => ?_) (fun h => ?_) <;> try (exfalso; omega)) | (refine bcase_intro (fun h => ?_) (fun h => ?_) <;> (try simp only [Bool.not_eq_true', Bool.not_eq_false', decide_eq_true_eq, decide_eq_false_iff_not, Bool.not_eq_true, Bool.not_eq_false, Decidable.not_not] at h)) | refine And.intro (by first | omega | exact rfl | assumption | exact ⟨rfl, rfl, rfl, rfl, rfl⟩ | exact ⟨rfl, rfl, rfl, rfl⟩ | exact ⟨rfl, by omega⟩ | exact oneAll_of rfl | exact ⟨rfl, oneAll_of rfl⟩ | exact Ref.refl _ | exact Thin.ref (.skip (Thin.refl _)) | exact Thin.ref (.skip (.skip (Thin.refl _))) | exact n3 | exact ⟨by omega, by omega, by omega⟩ | exact ⟨rfl, Nat.le_of_ble_eq_true rfl⟩ | ((try unfold maxLen); (try simp only [List.length_nil, List.length_cons, List.length_append]); omega) | (refine ⟨rfl, ?_⟩; (try simp only [List.length_nil, List.length_cons, List.length_append]); omega)) ?_ | intro _)); (all_goals (conv => whnf))
              all_goals first | (exfalso; omega) | exact ⟨endOld hq rfl⟩ | exact ⟨endNew 801 802 rfl rfl rfl rfl rfl rfl rfl rfl⟩
    · rw [if_neg k3]
      by_cases hx : x = 0
      · rw [if_pos hx]
        (repeat' ((conv => whnf); first | rw [Int.toNat_natCast] | rw [Nat.mul_one] | (first | refine CallK_pure (.v _) (fun w hR => p1 w) ?_ | refine QCall_pure (.v _) (fun w hR => p1 w) ?_) | (first | refine CallK_pure (.v _) (fun w hR => p2 w) ?_ | refine QCall_pure (.v _) (fun w hR => p2 w) ?_) | (first | refine CallK_pure (.v _) (fun w hR => p3 w) ?_ | refine QCall_pure (.v _) (fun w hR => p3 w) ?_) | refine ⟨_, rd1, ?_⟩ | refine ⟨_, rd2, ?_⟩ | refine ⟨.v _, ⟨rfl, trivial⟩, ?_⟩ | (refine bcase_prop (fun h => ?_) (fun h => ?_) <;> try (exfalso; omega)) | (refine bcase_nprop (fun h => ?_) (fun h => ?_) <;> try (exfalso; omega)) | (refine bcase_intro (fun h => ?_) (fun h => ?_) <;> (try simp only [Bool.not_eq_true', Bool.not_eq_false', decide_eq_true_eq, decide_eq_false_iff_not, Bool.not_eq_true, Bool.not_eq_false, Decidable.not_not] at h)) | refine And.intro (by first | omega | exact rfl | assumption | exact ⟨rfl, rfl, rfl, rfl, rfl⟩ | exact ⟨rfl, rfl, rfl, rfl⟩ | exact ⟨rfl, by omega⟩ | exact oneAll_of rfl | exact ⟨rfl, oneAll_of rfl⟩ | exact Ref.refl _ | exact Thin.ref (.skip (Thin.refl _)) | exact Thin.ref (.skip (.skip (Thin.refl _))) | exact n3 | exact ⟨rfl, Nat.le_of_ble_eq_true rfl⟩ | ((try unfold maxLen); (try simp only [List.length_nil, List.length_cons, List.length_append]); omega) | (refine ⟨rfl, ?_⟩; (try simp only [List.length_nil, List.length_cons, List.length_append]); omega)) ?_ | intro _)); (all_goals (conv => whnf))
        all_goals first | exact ⟨endOld rfl rfl⟩ | (exfalso; omega)
      · rw [if_neg hx]
        by_cases hy : y = 0
        · rw [if_pos hy]
          (repeat' ((conv => whnf); first | rw [Int.toNat_natCast] | rw [Nat.mul_one] | (first | refine CallK_pure (.v _) (fun w hR => p1 w) ?_ | refine QCall_pure (.v _) (fun w hR => p1 w) ?_) | (first | refine CallK_pure (.v _) (fun w hR => p2 w) ?_ | refine QCall_pure (.v _) (fun w hR => p2 w) ?_) | (first | refine CallK_pure (.v _) (fun w hR => p3 w) ?_ | refine QCall_pure (.v _) (fun w hR => p3 w) ?_) | refine ⟨_, rd1, ?_⟩ | refine ⟨_, rd2, ?_⟩ | refine ⟨.v _, ⟨rfl, trivial⟩, ?_⟩ | (refine bcase_prop (fun h => ?_) (fun h => ?_) <;> try (exfalso; omega)) | (refine bcase_nprop (fun h => ?_) (fun h => ?_) <;> try (exfalso; omega)) | (refine bcase_intro (fun h => ?_) (fun h => ?_) <;> (try simp only [Bool.not_eq_true', Bool.not_eq_false', decide_eq_true_eq, decide_eq_false_iff_not, Bool.not_eq_true, Bool.not_eq_false, Decidable.not_not] at h)) | refine And.intro (by first | omega | exact rfl | assumption | exact ⟨rfl, rfl, rfl, rfl, rfl⟩ | exact ⟨rfl, rfl, rfl, rfl⟩ | exact ⟨rfl, by omega⟩ | exact oneAll_of rfl | exact ⟨rfl, oneAll_of rfl⟩ | exact Ref.refl _ | exact Thin.ref (.skip (Thin.refl _)) | exact Thin.ref (.skip (.skip (Thin.refl _))) | exact n3 | exact ⟨rfl, Nat.le_of_ble_eq_true rfl⟩ | ((try unfold maxLen); (try simp only [List.length_nil, List.length_cons, List.length_append]); omega) | (refine ⟨rfl, ?_⟩; (try simp only [List.length_nil, List.length_cons, List.length_append]); omega)) ?_ | intro _)); (all_goals (conv => whnf))
          all_goals first | exact ⟨endOld rfl rfl⟩ | (exfalso; omega)
        · rw [if_neg hy]
          have cA := calls_rAdd (a1 := a1) (c1 := c1) (a2 := a2) (c2 := c2) E (by omega) (pairR x y) ((tm E x).len + (tm E y).len) (len_pair E x y)
          generalize (tm E x).len = lx at *
          generalize (tm E y).len = ly at *
          unfold LM at *
          by_cases hlong : 1152921504606846976 < lx + ly
          · rw [if_pos hlong]
            (repeat' ((conv => whnf); first | rw [Int.toNat_natCast] | rw [Nat.mul_one] | (first | refine CallK_pure (.v _) (fun w hR => p1 w) ?_ | refine QCall_pure (.v _) (fun w hR => p1 w) ?_) | (first | refine CallK_pure (.v _) (fun w hR => p2 w) ?_ | refine QCall_pure (.v _) (fun w hR => p2 w) ?_) | (first | refine CallK_pure (.v _) (fun w hR => p3 w) ?_ | refine QCall_pure (.v _) (fun w hR => p3 w) ?_) | refine ⟨_, rd1, ?_⟩ | refine ⟨_, rd2, ?_⟩ | refine ⟨.v _, ⟨rfl, trivial⟩, ?_⟩ | (refine QCall_pure (.v _) (fun w hR => L1 w (h2.cast hR (by simp))) ?_) | (refine QCall_pure (.v _) (fun w hR => L2 w (h2.cast hR (by simp))) ?_) | (refine bcase_prop (fun h => ?_) (fun h => ?_) <;> try (exfalso; omega)) | (refine bcase_nprop (fun h => ?_) (fun h => ?_) <;> try (exfalso; omega)) | (refine bcase_intro (fun h => ?_) (fun h => ?_) <;> (try simp only [Bool.not_eq_true', Bool.not_eq_false', decide_eq_true_eq, decide_eq_false_iff_not, Bool.not_eq_true, Bool.not_eq_false, Decidable.not_not] at h)) | refine And.intro (by first | omega | exact rfl | assumption | exact ⟨rfl, rfl, rfl, rfl, rfl⟩ | exact ⟨rfl, rfl, rfl, rfl⟩ | exact ⟨rfl, by omega⟩ | exact oneAll_of rfl | exact ⟨rfl, oneAll_of rfl⟩ | exact Ref.refl _ | exact Thin.ref (.skip (Thin.refl _)) | exact Thin.ref (.skip (.skip (Thin.refl _))) | exact n3 | exact ⟨rfl, Nat.le_of_ble_eq_true rfl⟩ | ((try unfold maxLen); (try simp only [List.length_nil, List.length_cons, List.length_append]); omega) | (refine ⟨rfl, ?_⟩; (try simp only [List.length_nil, List.length_cons, List.length_append]); omega)) ?_ | intro _)); (all_goals (conv => whnf))
            all_goals first | exact ⟨endOld rfl rfl⟩ | (exfalso; omega)
          · rw [if_neg hlong]
            have hadd : (lx : Int) + (ly : Int) = ((lx + ly : Nat) : Int) := by omega
            (repeat' ((conv => whnf); first | rw [hadd] | rw [Int.toNat_natCast] | rw [Nat.mul_one] | (first | refine CallK_pure (.v _) (fun w hR => p1 w) ?_ | refine QCall_pure (.v _) (fun w hR => p1 w) ?_) | (first | refine CallK_pure (.v _) (fun w hR => p2 w) ?_ | refine QCall_pure (.v _) (fun w hR => p2 w) ?_) | (first | refine CallK_pure (.v _) (fun w hR => p3 w) ?_ | refine QCall_pure (.v _) (fun w hR => p3 w) ?_) | refine ⟨_, rd1, ?_⟩ | refine ⟨_, rd2, ?_⟩ | refine ⟨.v _, ⟨rfl, trivial⟩, ?_⟩ | (refine QCall_pure (.v _) (fun w hR => L1 w (h2.cast hR (by simp))) ?_) | (refine QCall_pure (.v _) (fun w hR => L2 w (h2.cast hR (by simp))) ?_) | ((refine CallK_new (fun w hR => cA w (h1.cast hR (by simp)) (h2.cast hR (by simp))) ?_; rintro _ _ (⟨hq, rfl, rfl⟩ | ⟨a1', c1', a2', c2', rfl, rfl⟩)) <;> refine ⟨.v _, rfl, ?_⟩) | (refine bcase_prop (fun h => ?_) (fun h => ?_) <;> try (exfalso; omega)) | (refine bcase_nprop (fun h => ?_) (fun h => ?_) <;> try (exfalso; omega)) | (refine bcase_intro (fun h => ?_) (fun h => ?_) <;> (try simp only [Bool.not_eq_true', Bool.not_eq_false', decide_eq_true_eq, decide_eq_false_iff_not, Bool.not_eq_true, Bool.not_eq_false, Decidable.not_not] at h)) | refine And.intro (by first | omega | exact rfl | assumption | exact ⟨rfl, rfl, rfl, rfl, rfl⟩ | exact ⟨rfl, rfl, rfl, rfl⟩ | exact ⟨rfl, by omega⟩ | exact oneAll_of rfl | exact ⟨rfl, oneAll_of rfl⟩ | exact Ref.refl _ | exact Thin.ref (.skip (Thin.refl _)) | exact Thin.ref (.skip (.skip (Thin.refl _))) | exact n3 | exact ⟨rfl, Nat.le_of_ble_eq_true rfl⟩ | ((try unfold maxLen); (try simp only [List.length_nil, List.length_cons, List.length_append]); omega) | (refine ⟨rfl, ?_⟩; (try simp only [List.length_nil, List.length_cons, List.length_append]); omega)) ?_ | intro _)); (all_goals (conv => whnf))
            all_goals first | (exfalso; omega) | exact ⟨endOld hq rfl⟩ | exact ⟨endNew 801 802 rfl rfl rfl rfl rfl rfl rfl rfl⟩
end Go.Proofs.Ytohlphngnhcbfaa
/- Lists of makes: the whole list, by the reference and in a store. -/
namespace Go.Proofs.Ytohlphngnhcbfaa
open Go.EG
attribute [local irreducible] CallK QCall Go.Calls
set_option linter.unusedSimpArgs false
set_option linter.unusedVariables false
set_option maxRecDepth 20000
set_option maxHeartbeats 4000000

/-! ### Plain -/

theorem buildF_prefix : ∀ (ms : List Rul) (E : List Entr) (res : List Int), ∃ rest, (buildF E res ms).2 = res ++ rest
  | [], E, res => ⟨[], by simp [buildF]⟩
  | m :: ms, E, res => by
    obtain ⟨rest, h⟩ := buildF_prefix ms (oneF E m res).1 (res ++ [(oneF E m res).2])
    exact ⟨(oneF E m res).2 :: rest, by rw [buildF, h]; simp⟩
/-- What a list's first makes have made. -/
structure BSt (g : List Rul) (i : Nat) (E : List Entr) (res : List Int) : Prop where
  bld : Bld E res
  len : res.length = i + 1
  room : E.length ≤ i
  all : buildF [] [0] g = buildF E res (g.drop i)
theorem BSt.start (g : List Rul) : BSt g 0 [] [0] := ⟨Bld.start, rfl, Nat.le_refl _, rfl⟩
theorem BSt.next {g : List Rul} {i : Nat} {E : List Entr} {res : List Int} (h : BSt g i E res) (hi : i < g.length) (hl : g.length ≤ 40) (hm : MakB (g.getD i rul0)) : BSt g (i + 1) (oneF E (g.getD i rul0) res).1 (res ++ [(oneF E (g.getD i rul0) res).2]) := by
  have hr := h.room
  obtain ⟨_, _, h3, h4, _⟩ := one_ok (m := g.getD i rul0) h.bld hm.l (by omega)
  refine ⟨h3, by simp [h.len], by omega, ?_⟩
  rw [h.all, drop_cons (d := rul0) hi, buildF]
theorem BSt.end_ {g : List Rul} {i : Nat} {E : List Entr} {res : List Int} (h : BSt g i E res) (hi : ¬ i < g.length) : buildF [] [0] g = (E, res) := by
  rw [h.all, List.drop_eq_nil_of_le (by omega), buildF]
theorem BSt.want {g : List Rul} {i : Nat} {E : List Entr} {res : List Int} (h : BSt g i E res) (hi : i < g.length) : (buildF [] [0] g).2.getD (i + 1) 0 = (oneF E (g.getD i rul0) res).2 := by
  rw [h.all, drop_cons (d := rul0) hi, buildF]
  obtain ⟨rest, hrest⟩ := buildF_prefix (g.drop (i + 1)) (oneF E (g.getD i rul0) res).1 (res ++ [(oneF E (g.getD i rul0) res).2])
  rw [hrest, List.getD_eq_getElem?_getD, List.getElem?_append_left (by simp [h.len]), List.getElem?_append_right (by rw [h.len]; exact Nat.le_refl _), h.len]
  simp
theorem bst_all {g : List Rul} (hg : MIn g) (hl : g.length ≤ 40) : BSt g g.length (buildF [] [0] g).1 (buildF [] [0] g).2 := by
  have key : ∀ k, k ≤ g.length → ∃ E res, BSt g k E res := by
    intro k
    induction k with
    | zero => exact fun _ => ⟨_, _, BSt.start g⟩
    | succ k ih =>
      intro hk
      obtain ⟨E, res, h⟩ := ih (by omega)
      exact ⟨_, _, h.next (by omega) hl (hg.ok k (by omega))⟩
  obtain ⟨E, res, h⟩ := key g.length (Nat.le_refl _)
  have := h.end_ (by omega)
  rw [this]
  exact h

/-! ### The reference's list -/

structure BldG where
  i : Nat
  E : List Entr
  res : List Int
  a1 : Option Addr
  c1 : Nat
  a2 : Option Addr
  c2 : Nat
  a3 : Option Addr
  c3 : Nat
def bldQ (g : List Rul) (v : Value) (L1 : List Ent) : Prop :=
  ∃ a1 c1 a2 c2 a3 c3, v = .tuple #[stV (buildF [] [0] g).1.length a1 c1 a2 c2, .slice a3 (g.length + 1) c3] ∧
    L1 = [.own 801 a1 (buildF [] [0] g).1.length c1 ty_api_Rule 5 (ruE (buildF [] [0] g).1), .own 802 a2 (buildF [] [0] g).1.length c2 ty_int 1 (leE (buildF [] [0] g).1), .own 803 a3 (g.length + 1) c3 ty_api_ID 1 (ints .i64 (buildF [] [0] g).2)]
theorem calls_rBuild (g : List Rul) (hg : MIn g) (hl : g.length ≤ 40) (a : Option Addr) (c : Nat) (w : World) (hin : In w [] a (rulsC g)) :
    Calls Try.prog fn_evergreenref12_Build #[.slice a g.length c] w fun e w' => ∃ v L1, e = .returned v ∧ R w [] L1 w' ∧ bldQ g v L1 := by
  refine new_call [.v (.slice a g.length c)] ok_evergreenref12_Build (by simp) ?_
  have hne : ∀ i, i < g.length → a ≠ none := fun i hi => hin.ne' (k := i * 5) (by rw [rulsC_length]; omega)
  have hrd := fun {L : List Ent} (i : Nat) (hi : i < g.length) => In.rdn (L := L) (vs := ruC (g.getD i rul0)) (k := i * 5) hin (Nat.succ_pos _) (rulsC_at hi)
  (repeat' ((conv => whnf); first | (refine bcase_prop (fun h => ?_) (fun h => ?_) <;> try (exfalso; omega)) | (refine bcase_nprop (fun h => ?_) (fun h => ?_) <;> try (exfalso; omega)) | (refine bcase_intro (fun h => ?_) (fun h => ?_) <;> (try simp only [Bool.not_eq_true', Bool.not_eq_false', decide_eq_true_eq, decide_eq_false_iff_not, Bool.not_eq_true, Bool.not_eq_false, Decidable.not_not] at h)) | refine And.intro (by first | omega | exact rfl | assumption | exact ⟨rfl, rfl, rfl, rfl, rfl⟩ | exact ⟨rfl, rfl, rfl, rfl⟩ | exact ⟨rfl, by omega⟩ | exact oneAll_of rfl | exact ⟨rfl, oneAll_of rfl⟩ | exact Ref.refl _ | exact Thin.ref (.skip (Thin.refl _)) | exact Thin.ref (.skip (.skip (Thin.refl _))) | exact ⟨rfl, Nat.le_of_ble_eq_true rfl⟩ | ((try unfold maxLen); (try simp only [List.length_nil, List.length_cons, List.length_append]); omega) | (refine ⟨rfl, ?_⟩; (try simp only [List.length_nil, List.length_cons, List.length_append]); omega)) ?_ | intro _)); (all_goals (conv => whnf))
  rename_i b2 b4 b10
  refine VC_loop BldG (fun x => [(0, .v (.slice a g.length c)), (2, .ptr 2 b2 0), (4, .ptr 4 b4 0), (5, .sl 803 x.a3 x.res.length x.c3), (6, .v (.int .i64 x.i))])
    (fun x => [.own 801 x.a1 x.E.length x.c1 ty_api_Rule 5 (ruE x.E), .own 802 x.a2 x.E.length x.c2 ty_int 1 (leE x.E), .own 803 x.a3 x.res.length x.c3 ty_api_ID 1 (ints .i64 x.res), .box 4 b4 [.slice x.a1 x.E.length x.c1, .slice x.a2 x.E.length x.c2] ty_evergreenref12_Store, .box 2 b2 [.slice none 0 0, .slice none 0 0] ty_evergreenref12_Store])
    (fun x => x.i ≤ g.length ∧ BSt g x.i x.E x.res) (fun x => g.length - x.i) ⟨0, [], [0], none, 0, none, 0, some ⟨b10, 0, none⟩, 1⟩ ⟨Nat.zero_le _, BSt.start g⟩ (by (repeat ((conv => whnf); refine And.intro (by first | exact rfl | exact vint_eq (by omega) | exact vint_eq (by (dsimp only; omega)) | exact vsl_eq (by omega) | exact vsl_eq (by first | (dsimp only; omega) | (simp; done) | (simp; omega))) ?_)); exact trivial) ((Ref.ownNil 802 ty_int 1).trans ((Ref.ownNil 801 ty_api_Rule 5).trans (Thin.ref (by (repeat (first | exact Thin.nil _ | exact Thin.refl _ | refine Thin.keep rfl (fun _ h => h) ?_ | refine Thin.skip ?_)))))) ?_
  rintro ⟨i, E, res, a1, c1, a2, c2, a3, c3⟩ ⟨hi, hB⟩
  dsimp only at hi hB ⊢
  by_cases hlt : i < g.length
  · have hn0 := hne i hlt
    have hr := fun {L : List Ent} => hrd (L := L) i hlt
    have hmk := hg.ok i hlt
    have hnx := hB.next hlt hl hmk
    have hroom := hB.room
    have hrl := hB.len
    have cO := fun w h1 h2 h3 => calls_rOne (a1 := a1) (c1 := c1) (a2 := a2) (c2 := c2) (a3 := a3) (c3 := c3) hB.bld (by omega) (by omega) hmk w h1 h2 h3
    have hsn := ints_snoc .i64 res (oneF E (g.getD i rul0) res).2
    generalize g.getD i rul0 = m at *
    generalize oneF E m res = EE at *
    obtain ⟨E', id⟩ := EE
    dsimp only at *
    (repeat' ((conv => whnf); first | rw [hsn] | rw [Int.toNat_natCast] | refine stop_and ?_ ?_ | refine ⟨ruC m, rfl, hr, ?_⟩ | refine ⟨_, ⟨rfl, trivial⟩, ?_⟩ | ((refine CallK_new (fun w hR => cO w (In.ownR (key := 801) hR rfl) (In.ownR (key := 802) hR rfl) (In.ownR (key := 803) hR rfl)) ?_; rintro _ _ (⟨hq, rfl, rfl⟩ | ⟨a1', c1', a2', c2', rfl, rfl⟩)) <;> refine ⟨.v _, rfl, ?_⟩) | (refine bcase_prop (fun h => ?_) (fun h => ?_) <;> try (exfalso; omega)) | (refine bcase_nprop (fun h => ?_) (fun h => ?_) <;> try (exfalso; omega)) | (refine bcase_intro (fun h => ?_) (fun h => ?_) <;> (try simp only [Bool.not_eq_true', Bool.not_eq_false', decide_eq_true_eq, decide_eq_false_iff_not, Bool.not_eq_true, Bool.not_eq_false, Decidable.not_not] at h)) | refine And.intro (by first | omega | exact rfl | assumption | exact ⟨rfl, rfl, rfl, rfl, rfl⟩ | exact ⟨rfl, rfl, rfl, rfl⟩ | exact ⟨rfl, by omega⟩ | exact oneAll_of rfl | exact ⟨rfl, oneAll_of rfl⟩ | exact Ref.refl _ | exact Thin.ref (.skip (Thin.refl _)) | exact Thin.ref (.skip (.skip (Thin.refl _))) | exact fun _ => Thin.ref (by (repeat (first | exact Thin.nil _ | exact Thin.refl _ | refine Thin.keep rfl (fun _ h => h) ?_ | refine Thin.skip ?_))) | exact Thin.ref (by (repeat (first | exact Thin.nil _ | exact Thin.refl _ | refine Thin.keep rfl (fun _ h => h) ?_ | refine Thin.skip ?_))) | exact ⟨rfl, Nat.le_of_ble_eq_true rfl⟩ | ((try unfold maxLen); (try simp only [List.length_nil, List.length_cons, List.length_append]); omega) | (refine ⟨rfl, ?_⟩; (try simp only [List.length_nil, List.length_cons, List.length_append]); omega)) ?_ | intro _)); (all_goals (conv => whnf))
    all_goals rename_i a' c'
    all_goals first
      | (subst hq; refine loop_next ⟨i + 1, E', res ++ [id], a1, c1, a2, c2, a', c'⟩ ⟨hlt, hnx⟩ (by ((try dsimp only); omega)) (by (repeat ((conv => whnf); refine And.intro (by first | exact rfl | exact vint_eq (by omega) | exact vint_eq (by (dsimp only; omega)) | exact vsl_eq (by omega) | exact vsl_eq (by first | (dsimp only; omega) | (simp; done) | (simp; omega))) ?_)); exact trivial) (Thin.ref ?_))
      | (refine loop_next ⟨i + 1, E', res ++ [id], a1', c1', a2', c2', a', c'⟩ ⟨hlt, hnx⟩ (by ((try dsimp only); omega)) (by (repeat ((conv => whnf); refine And.intro (by first | exact rfl | exact vint_eq (by omega) | exact vint_eq (by (dsimp only; omega)) | exact vsl_eq (by omega) | exact vsl_eq (by first | (dsimp only; omega) | (simp; done) | (simp; omega))) ?_)); exact trivial) (Thin.ref ?_))
    all_goals (repeat (first | exact Thin.nil _ | exact Thin.refl _ | refine Thin.keep rfl (fun _ h => h) ?_ | refine Thin.own (by simp; done) rfl ?_ | refine Thin.skip ?_))
  · have he := hB.end_ hlt
    have hrl := hB.len
    have hig : i = g.length := by omega
    subst hig
    unfold bldQ
    rw [he]
    (repeat' ((conv => whnf); first | refine ⟨_, ⟨rfl, trivial⟩, ?_⟩ | (refine bcase_prop (fun h => ?_) (fun h => ?_) <;> try (exfalso; omega)) | (refine bcase_nprop (fun h => ?_) (fun h => ?_) <;> try (exfalso; omega)) | (refine bcase_intro (fun h => ?_) (fun h => ?_) <;> (try simp only [Bool.not_eq_true', Bool.not_eq_false', decide_eq_true_eq, decide_eq_false_iff_not, Bool.not_eq_true, Bool.not_eq_false, Decidable.not_not] at h)) | refine And.intro (by first | omega | exact rfl | assumption | exact ⟨rfl, rfl, rfl, rfl, rfl⟩ | exact ⟨rfl, rfl, rfl, rfl⟩ | exact ⟨rfl, by omega⟩ | exact oneAll_of rfl | exact ⟨rfl, oneAll_of rfl⟩ | exact Ref.refl _ | exact Thin.ref (.skip (Thin.refl _)) | exact Thin.ref (.skip (.skip (Thin.refl _))) | exact ⟨rfl, Nat.le_of_ble_eq_true rfl⟩ | ((try unfold maxLen); (try simp only [List.length_nil, List.length_cons, List.length_append]); omega) | (refine ⟨rfl, ?_⟩; (try simp only [List.length_nil, List.length_cons, List.length_append]); omega)) ?_ | intro _)); (all_goals (conv => whnf))
    refine ⟨⟨_, ?_, a1, c1, a2, c2, a3, c3, ?_, rfl⟩⟩
    · refine Thin.ref (.keep rfl (fun _ h => h) (.keep rfl (fun _ h => h) (.own hrl rfl (.nil _))))
    · rw [hrl]; rfl

/-! ### The list in a store -/



structure LbG where
  i : Nat
  E : List Entr
  res : List Int
  a8 : Option Addr
  c8 : Nat
  fp : List Nat
def lbQ (b : Nat) (g : List Rul) (v : Value) (L1 : List Ent) : Prop :=
  ∃ a c fp', v = .tuple #[.slice a (g.length + 1) c, .bool true] ∧ L1 = [packE 77 fp' (fS b ⟨1000, (buildF [] [0] g).1⟩), .own 804 a (g.length + 1) c ty_api_ID 1 (ints .i64 (buildF [] [0] g).2)]
theorem mx0 (t : Int) : (if (0 : Int) > t then 0 else t) = max t 0 := by omega
theorem calls_lBuild (b : Nat) (g : List Rul) (hg : MIn g) (hl : g.length ≤ 40) (a : Option Addr) (c key : Nat) (fp : List Nat) (w : World) (hR : StR w key fp b ⟨1000, []⟩) (hin : In w fp a (rulsC g)) :
    Calls Try.prog fn_evergreenlaw12_Build #[pS b, .slice a g.length c] w fun e w' => ∃ v L1, e = .returned v ∧ R w fp L1 w' ∧ lbQ b g v L1 := by
  refine part_call [.v (pS b), .v (.slice a g.length c)] ok_evergreenlaw12_Build (by simp) (hR.key 77) ?_
  have hne : ∀ i, i < g.length → a ≠ none := fun i hi => hin.ne' (k := i * 5) (by rw [rulsC_length]; omega)
  have hrd := fun {L : List Ent} (i : Nat) (hi : i < g.length) => In.rdn (L := L) (vs := ruC (g.getD i rul0)) (k := i * 5) hin (Nat.succ_pos _) (rulsC_at hi)
  have cB := fun w h => calls_rBuild g hg hl a c w h
  (repeat' ((conv => whnf); first | ((refine CallK_new (fun w hR => cB w (hin.cast hR (by simp))) ?_); rintro _ _ ⟨a1, c1, a2, c2, a3, c3, rfl, rfl⟩; refine ⟨.v _, rfl, ?_⟩) | (refine bcase_prop (fun h => ?_) (fun h => ?_) <;> try (exfalso; omega)) | (refine bcase_nprop (fun h => ?_) (fun h => ?_) <;> try (exfalso; omega)) | (refine bcase_intro (fun h => ?_) (fun h => ?_) <;> (try simp only [Bool.not_eq_true', Bool.not_eq_false', decide_eq_true_eq, decide_eq_false_iff_not, Bool.not_eq_true, Bool.not_eq_false, Decidable.not_not] at h)) | refine And.intro (by first | omega | exact rfl | assumption | exact ⟨rfl, rfl, rfl, rfl, rfl⟩ | exact ⟨rfl, rfl, rfl, rfl⟩ | exact ⟨rfl, by omega⟩ | exact oneAll_of rfl | exact ⟨rfl, oneAll_of rfl⟩ | exact Ref.refl _ | exact Thin.ref (.skip (Thin.refl _)) | exact Thin.ref (.skip (.skip (Thin.refl _))) | exact ⟨rfl, Nat.le_of_ble_eq_true rfl⟩ | ((try unfold maxLen); (try simp only [List.length_nil, List.length_cons, List.length_append]); omega) | (refine ⟨rfl, ?_⟩; (try simp only [List.length_nil, List.length_cons, List.length_append]); omega)) ?_ | intro _)); (all_goals (conv => whnf))
  rename_i b6 b19
  have hwl : (buildF [] [0] g).2.length = g.length + 1 := (bst_all hg hl).len
  refine VC_loop LbG (fun x => [(0, .v (pS b)), (1, .v (.slice a g.length c)), (4, .v (.slice none 0 0)), (5, .v (.bool false)), (7, .sl 803 a3 (g.length + 1) c3), (8, .sl 804 x.a8 x.res.length x.c8), (20, .v (.slice a g.length c)), (21, .v (.int .i64 g.length)), (22, .v (.int .i64 x.i))])
    (fun x => [packE 77 x.fp (fS b ⟨1000, x.E⟩), .own 804 x.a8 x.res.length x.c8 ty_api_ID 1 (ints .i64 x.res), .own 803 a3 (g.length + 1) c3 ty_api_ID 1 (ints .i64 (buildF [] [0] g).2)])
    (fun x => x.i ≤ g.length ∧ BSt g x.i x.E x.res) (fun x => g.length - x.i) ⟨0, [], [0], some ⟨b19, 0, none⟩, 1, fp⟩ ⟨Nat.zero_le _, BSt.start g⟩ (by (repeat ((conv => whnf); refine And.intro (by first | exact rfl | exact vint_eq (by omega) | exact vint_eq (by (dsimp only; omega)) | exact vsl_eq (by omega) | exact vsl_eq (by first | (dsimp only; omega) | (simp; done) | (simp; omega))) ?_)); exact trivial) ((refPick 77 rfl).trans (Thin.ref ?_)) ?_
  · exact .keep rfl (fun _ h => h) (.keep rfl (fun _ h => h) (.skip (.skip (.skip (.keep rfl (fun _ h => h) (.nil _))))))
  rintro ⟨i, E, res, a8, c8, fpi⟩ ⟨hi, hB⟩
  dsimp only at hi hB ⊢
  by_cases hlt : i < g.length
  · have hn0 := hne i hlt
    have hr := fun {L : List Ent} => hrd (L := L) i hlt
    have hmk := hg.ok i hlt
    have hnx := hB.next hlt hl hmk
    have hroom := hB.room
    have hrl := hB.len
    have hwant := hB.want hlt
    obtain ⟨o1, o2, _, _, _⟩ := one_ok (m := g.getD i rul0) hB.bld hmk.l (by omega)
    generalize g.getD i rul0 = m at *
    have p1 := calls_Pick m.a res.length hB.bld.ne (by omega) hmk.a
    have p2 := calls_Pick m.b res.length hB.bld.ne (by omega) hmk.b
    have p3 := calls_Pick m.k 4 (by decide) (by decide) hmk.k
    have i1 := pickF_lt (n := m.a) hB.bld.ne
    have i2 := pickF_lt (n := m.b) hB.bld.ne
    have hat : ∀ j, j < res.length → (ints .i64 res)[j]? = some (.int .i64 (res.getD j 0)) := fun j hj => ints_getD hj
    have r1 := hat _ i1
    have r2 := hat _ i2
    have r3 : (ints .i64 (buildF [] [0] g).2)[i + 1]? = some (.int .i64 (oneF E m res).2) := by rw [← hwant]; exact ints_getD (by omega)
    have hsn := ints_snoc .i64 res (oneF E m res).2
    have e1 : ((i : Int) + 1).toNat = i + 1 := by omega
    have t0 := mx0 m.t
    have c2 := calls_Power b ⟨1000, E⟩ hB.bld.wf (res.getD (pickF m.a res.length) 0) (max m.t 0) (by have := hmk.t; omega)
    have c3 := calls_Pair b ⟨1000, E⟩ hB.bld.wf (res.getD (pickF m.a res.length) 0) (res.getD (pickF m.b res.length) 0)
    obtain ⟨l, hl'⟩ : ∃ l : Nat, m.l = l := ⟨m.l.toNat, by have := hmk.l; omega⟩
    have c1 := calls_Letter b ⟨1000, E⟩ l (by have := hmk.l; omega) (by dsimp only; omega)
    unfold stOne at o1 o2
    rw [hl', Int.toNat_natCast] at o1 o2
    generalize (buildF [] [0] g).2 = want at *
    generalize oneF E m res = EE at *
    obtain ⟨E', id⟩ := EE
    dsimp only at o1 o2 hnx hwant r3 hsn
    generalize pickF m.a res.length = ia at *
    generalize pickF m.b res.length = ib at *
    generalize pickF m.k 4 = kk at *
    generalize res.getD ia 0 = x at *
    generalize res.getD ib 0 = y at *
    by_cases k0 : kk = 0
    · subst k0
      rw [if_pos rfl] at o1 o2
      rw [o1] at c1
      generalize stPut ⟨1000, E⟩ (letR l) = st at *
      obtain ⟨st0, st1, st2⟩ := st
      dsimp only at o1 o2 c1
      subst o1 o2
      unfold resV at c1
      generalize errO st2 = er at *
      (repeat' ((conv => whnf); first | rw [hsn] | rw [hl'] | rw [e1] | rw [Int.toNat_natCast] | rw [Nat.mul_one] | (first | refine CallK_pure (.v _) (fun w hR => p1 w) ?_ | refine QCall_pure (.v _) (fun w hR => p1 w) ?_) | (first | refine CallK_pure (.v _) (fun w hR => p2 w) ?_ | refine QCall_pure (.v _) (fun w hR => p2 w) ?_) | (first | refine CallK_pure (.v _) (fun w hR => p3 w) ?_ | refine QCall_pure (.v _) (fun w hR => p3 w) ?_) | (refine CallK_pack (key := 77) rfl (fun w hR h0 => c1 _ _ _ h0) ?_; rintro _ _ ⟨rfl, fp', rfl⟩; refine ⟨.v _, rfl, ?_⟩) | refine ldCell r1 ?_ | refine ldCell r2 ?_ | refine ldCell r3 ?_ | refine ⟨ruC m, rfl, hr, ?_⟩ | refine ⟨_, ⟨rfl, trivial⟩, ?_⟩ | (refine bcase_prop (fun h => ?_) (fun h => ?_) <;> try (exfalso; omega)) | (refine bcase_nprop (fun h => ?_) (fun h => ?_) <;> try (exfalso; omega)) | (refine bcase_intro (fun h => ?_) (fun h => ?_) <;> (try simp only [Bool.not_eq_true', Bool.not_eq_false', decide_eq_true_eq, decide_eq_false_iff_not, Bool.not_eq_true, Bool.not_eq_false, Decidable.not_not] at h)) | refine And.intro (by first | omega | exact rfl | assumption | exact ⟨rfl, rfl, rfl, rfl, rfl⟩ | exact ⟨rfl, rfl, rfl, rfl⟩ | exact ⟨rfl, by omega⟩ | exact oneAll_of rfl | exact ⟨rfl, oneAll_of rfl⟩ | exact Ref.refl _ | exact Thin.ref (.skip (Thin.refl _)) | exact Thin.ref (.skip (.skip (Thin.refl _))) | exact ⟨rfl, Nat.le_of_ble_eq_true rfl⟩ | ((try unfold maxLen); (try simp only [List.length_nil, List.length_cons, List.length_append]); omega) | (refine ⟨rfl, ?_⟩; (try simp only [List.length_nil, List.length_cons, List.length_append]); omega)) ?_ | intro _)); (all_goals (conv => whnf))
      rename_i a' c'
      refine loop_next ⟨i + 1, E', res ++ [st1], a', c', fp'⟩ ⟨hlt, hnx⟩ (by ((try dsimp only); omega)) (by (repeat ((conv => whnf); refine And.intro (by first | exact rfl | exact vint_eq (by omega) | exact vint_eq (by (dsimp only; omega)) | exact vsl_eq (by omega) | exact vsl_eq (by first | (dsimp only; omega) | (simp; done) | (simp; omega))) ?_)); exact trivial) ((refPick 77 rfl).trans (Thin.ref ?_))
      (repeat (first | exact Thin.nil _ | exact Thin.refl _ | refine Thin.keep rfl (fun _ h => h) ?_ | refine Thin.own (by simp; done) rfl ?_ | refine Thin.skip ?_))
    · rw [if_neg k0] at o1 o2
      by_cases k3 : kk = 3
      · subst k3
        rw [if_pos rfl] at o1 o2
        rw [o1] at c2
        generalize stPower ⟨1000, E⟩ x (max m.t 0) = st at *
        obtain ⟨st0, st1, st2⟩ := st
        dsimp only at o1 o2 c2
        subst o1 o2
        unfold resV at c2
        generalize errO st2 = er at *
        (repeat' ((conv => whnf); first | rw [t0] | rw [hsn] | rw [hl'] | rw [e1] | rw [Int.toNat_natCast] | rw [Nat.mul_one] | (first | refine CallK_pure (.v _) (fun w hR => p1 w) ?_ | refine QCall_pure (.v _) (fun w hR => p1 w) ?_) | (first | refine CallK_pure (.v _) (fun w hR => p2 w) ?_ | refine QCall_pure (.v _) (fun w hR => p2 w) ?_) | (first | refine CallK_pure (.v _) (fun w hR => p3 w) ?_ | refine QCall_pure (.v _) (fun w hR => p3 w) ?_) | (refine CallK_pack (key := 77) rfl (fun w hR h0 => c2 _ _ _ h0) ?_; rintro _ _ ⟨rfl, fp', rfl⟩; refine ⟨.v _, rfl, ?_⟩) | refine ldCell r1 ?_ | refine ldCell r2 ?_ | refine ldCell r3 ?_ | refine ⟨ruC m, rfl, hr, ?_⟩ | refine ⟨_, ⟨rfl, trivial⟩, ?_⟩ | (refine bcase_prop (fun h => ?_) (fun h => ?_) <;> try (exfalso; omega)) | (refine bcase_nprop (fun h => ?_) (fun h => ?_) <;> try (exfalso; omega)) | (refine bcase_intro (fun h => ?_) (fun h => ?_) <;> (try simp only [Bool.not_eq_true', Bool.not_eq_false', decide_eq_true_eq, decide_eq_false_iff_not, Bool.not_eq_true, Bool.not_eq_false, Decidable.not_not] at h)) | refine And.intro (by first | omega | exact rfl | assumption | exact ⟨rfl, rfl, rfl, rfl, rfl⟩ | exact ⟨rfl, rfl, rfl, rfl⟩ | exact ⟨rfl, by omega⟩ | exact oneAll_of rfl | exact ⟨rfl, oneAll_of rfl⟩ | exact Ref.refl _ | exact Thin.ref (.skip (Thin.refl _)) | exact Thin.ref (.skip (.skip (Thin.refl _))) | exact ⟨rfl, Nat.le_of_ble_eq_true rfl⟩ | ((try unfold maxLen); (try simp only [List.length_nil, List.length_cons, List.length_append]); omega) | (refine ⟨rfl, ?_⟩; (try simp only [List.length_nil, List.length_cons, List.length_append]); omega)) ?_ | intro _)); (all_goals (conv => whnf))
        all_goals first | (exfalso; omega) | skip
        all_goals rename_i a' c'
        all_goals (refine loop_next ⟨i + 1, E', res ++ [st1], a', c', fp'⟩ ⟨hlt, hnx⟩ (by ((try dsimp only); omega)) (by (repeat ((conv => whnf); refine And.intro (by first | exact rfl | exact vint_eq (by omega) | exact vint_eq (by (dsimp only; omega)) | exact vsl_eq (by omega) | exact vsl_eq (by first | (dsimp only; omega) | (simp; done) | (simp; omega))) ?_)); exact trivial) ((refPick 77 rfl).trans (Thin.ref ?_)))
        all_goals (repeat (first | exact Thin.nil _ | exact Thin.refl _ | refine Thin.keep rfl (fun _ h => h) ?_ | refine Thin.own (by simp; done) rfl ?_ | refine Thin.skip ?_))
      · rw [if_neg k3] at o1 o2
        rw [o1] at c3
        generalize stPair ⟨1000, E⟩ x y = st at *
        obtain ⟨st0, st1, st2⟩ := st
        dsimp only at o1 o2 c3
        subst o1 o2
        unfold resV at c3
        generalize errO st2 = er at *
        (repeat' ((conv => whnf); first | rw [hsn] | rw [hl'] | rw [e1] | rw [Int.toNat_natCast] | rw [Nat.mul_one] | (first | refine CallK_pure (.v _) (fun w hR => p1 w) ?_ | refine QCall_pure (.v _) (fun w hR => p1 w) ?_) | (first | refine CallK_pure (.v _) (fun w hR => p2 w) ?_ | refine QCall_pure (.v _) (fun w hR => p2 w) ?_) | (first | refine CallK_pure (.v _) (fun w hR => p3 w) ?_ | refine QCall_pure (.v _) (fun w hR => p3 w) ?_) | (refine CallK_pack (key := 77) rfl (fun w hR h0 => c3 _ _ _ h0) ?_; rintro _ _ ⟨rfl, fp', rfl⟩; refine ⟨.v _, rfl, ?_⟩) | refine ldCell r1 ?_ | refine ldCell r2 ?_ | refine ldCell r3 ?_ | refine ⟨ruC m, rfl, hr, ?_⟩ | refine ⟨_, ⟨rfl, trivial⟩, ?_⟩ | (refine bcase_prop (fun h => ?_) (fun h => ?_) <;> try (exfalso; omega)) | (refine bcase_nprop (fun h => ?_) (fun h => ?_) <;> try (exfalso; omega)) | (refine bcase_intro (fun h => ?_) (fun h => ?_) <;> (try simp only [Bool.not_eq_true', Bool.not_eq_false', decide_eq_true_eq, decide_eq_false_iff_not, Bool.not_eq_true, Bool.not_eq_false, Decidable.not_not] at h)) | refine And.intro (by first | omega | exact rfl | assumption | exact ⟨rfl, rfl, rfl, rfl, rfl⟩ | exact ⟨rfl, rfl, rfl, rfl⟩ | exact ⟨rfl, by omega⟩ | exact oneAll_of rfl | exact ⟨rfl, oneAll_of rfl⟩ | exact Ref.refl _ | exact Thin.ref (.skip (Thin.refl _)) | exact Thin.ref (.skip (.skip (Thin.refl _))) | exact ⟨rfl, Nat.le_of_ble_eq_true rfl⟩ | ((try unfold maxLen); (try simp only [List.length_nil, List.length_cons, List.length_append]); omega) | (refine ⟨rfl, ?_⟩; (try simp only [List.length_nil, List.length_cons, List.length_append]); omega)) ?_ | intro _)); (all_goals (conv => whnf))
        all_goals first | (exfalso; omega) | skip
        all_goals rename_i a' c'
        all_goals (refine loop_next ⟨i + 1, E', res ++ [st1], a', c', fp'⟩ ⟨hlt, hnx⟩ (by ((try dsimp only); omega)) (by (repeat ((conv => whnf); refine And.intro (by first | exact rfl | exact vint_eq (by omega) | exact vint_eq (by (dsimp only; omega)) | exact vsl_eq (by omega) | exact vsl_eq (by first | (dsimp only; omega) | (simp; done) | (simp; omega))) ?_)); exact trivial) ((refPick 77 rfl).trans (Thin.ref ?_)))
        all_goals (repeat (first | exact Thin.nil _ | exact Thin.refl _ | refine Thin.keep rfl (fun _ h => h) ?_ | refine Thin.own (by simp; done) rfl ?_ | refine Thin.skip ?_))
  · have he := hB.end_ hlt
    have hrl := hB.len
    have hig : i = g.length := by omega
    subst hig
    unfold lbQ
    rw [he]
    (repeat' ((conv => whnf); first | refine ⟨_, ⟨rfl, trivial⟩, ?_⟩ | (refine bcase_prop (fun h => ?_) (fun h => ?_) <;> try (exfalso; omega)) | (refine bcase_nprop (fun h => ?_) (fun h => ?_) <;> try (exfalso; omega)) | (refine bcase_intro (fun h => ?_) (fun h => ?_) <;> (try simp only [Bool.not_eq_true', Bool.not_eq_false', decide_eq_true_eq, decide_eq_false_iff_not, Bool.not_eq_true, Bool.not_eq_false, Decidable.not_not] at h)) | refine And.intro (by first | omega | exact rfl | assumption | exact ⟨rfl, rfl, rfl, rfl, rfl⟩ | exact ⟨rfl, rfl, rfl, rfl⟩ | exact ⟨rfl, by omega⟩ | exact oneAll_of rfl | exact ⟨rfl, oneAll_of rfl⟩ | exact Ref.refl _ | exact Thin.ref (.skip (Thin.refl _)) | exact Thin.ref (.skip (.skip (Thin.refl _))) | exact ⟨rfl, Nat.le_of_ble_eq_true rfl⟩ | ((try unfold maxLen); (try simp only [List.length_nil, List.length_cons, List.length_append]); omega) | (refine ⟨rfl, ?_⟩; (try simp only [List.length_nil, List.length_cons, List.length_append]); omega)) ?_ | intro _)); (all_goals (conv => whnf))
    refine ⟨⟨_, (refPick 77 rfl).trans (Thin.ref ?_), a8, c8, fpi, ?_, rfl⟩⟩
    · exact .keep rfl (fun _ h => h) (.own hrl rfl (.nil _))
    · rw [hrl]
/-- A cell of a row of one's own, read behind an address. -/
theorem calls_lBuildN (b : Nat) (g : List Rul) (hg : MIn g) (hl : g.length ≤ 40) (a : Option Addr) (c key : Nat) (fp : List Nat) (w : World) (hR : StR w key fp b ⟨1000, []⟩) (hin : In w fp a (rulsC g)) :
    Calls Try.prog fn_evergreenlaw12_Build #[pS b, .slice a g.length c] w fun e w' => ∃ v L1, e = .returned v ∧ R w fp L1 w' ∧ ∃ a c fp', a ≠ none ∧ v = .tuple #[.slice a (g.length + 1) c, .bool true] ∧ L1 = [packE 77 fp' (fS b ⟨1000, (buildF [] [0] g).1⟩), .own 804 a (g.length + 1) c ty_api_ID 1 (ints .i64 (buildF [] [0] g).2)] :=
  (calls_lBuild b g hg hl a c key fp w hR hin).mono fun e w' ⟨v, L1, he, hR', a, c, fp', hv, hL⟩ => by
    subst hL
    exact ⟨v, _, he, hR', a, c, fp', own_ne hR'.tail (key := 804) rfl (Nat.succ_pos _), hv, rfl⟩
end Go.Proofs.Ytohlphngnhcbfaa
/- A store with the rules of a list, and one of the results. -/
namespace Go.Proofs.Ytohlphngnhcbfaa
open Go.EG
attribute [local irreducible] CallK QCall Go.Calls
set_option linter.unusedSimpArgs false
set_option linter.unusedVariables false
set_option maxRecDepth 20000
set_option maxHeartbeats 4000000

theorem inCast1 {w0 w : World} {fp0 fp1 : List Nat} {k1 : Nat} {ok1 : World → Prop} {Lr : List Ent} {a : Option Addr} {xs : List Value} (h : In w0 fp0 a xs) (hR : R w0 fp0 (.abs k1 fp1 ok1 :: Lr) w) : In w fp1 a xs :=
  h.cast hR (fun b hb => by rw [fps_cons]; exact List.mem_append_left _ hb)
def gS (g : List Rul) : Sto := ⟨1000, (buildF [] [0] g).1⟩
abbrev gE (g : List Rul) : List Entr := (gS g).E
def gId (g : List Rul) (pick : Int) : Int := (buildF [] [0] g).2.getD (pickF pick (g.length + 1)) 0
theorem gS_wf {g : List Rul} (hg : MIn g) (hl : g.length ≤ 40) : WF (gS g) := (bst_all hg hl).bld.wf
theorem gId_known {g : List Rul} (hg : MIn g) (hl : g.length ≤ 40) (pick : Int) : known (gS g) (gId g pick) := by
  have h := bst_all hg hl
  have := h.bld.known (pickF pick (g.length + 1)) (by rw [h.len]; exact pickF_lt (by omega))
  exact this
theorem gE_len {g : List Rul} (hg : MIn g) (hl : g.length ≤ 40) : (gE g).length ≤ 40 := Nat.le_trans (bst_all hg hl).room hl
def begQ (g : List Rul) (pick : Int) (v : Value) (L1 : List Ent) : Prop :=
  ∃ b a1 c1 a2 c2 fp, v = .tuple #[pS b, stV (gE g).length a1 c1 a2 c2, .int .i64 (gId g pick), .bool true] ∧ L1 = [packE 77 fp (fS b (gS g)), .own 801 a1 (gE g).length c1 ty_api_Rule 5 (ruE (gE g)), .own 802 a2 (gE g).length c2 ty_int 1 (leE (gE g))]

theorem calls_begun16 (g : List Rul) (hg : MIn g) (hl : g.length ≤ 40) (pick : Int) (hp : -9223372036854775808 ≤ pick ∧ pick ≤ 9223372036854775807) (a : Option Addr) (c : Nat) (w : World) (hin : In w [] a (rulsC g)) :
    Calls Try.prog fn_evergreenlaw16_begun #[.slice a g.length c, .int .i64 pick] w fun e w' => ∃ v L1, e = .returned v ∧ R w [] L1 w' ∧ begQ g pick v L1 := by
  refine new_call [.v (.slice a g.length c), .v (.int .i64 pick)] ok_evergreenlaw16_begun (by simp) ?_
  have c1 := fun w => calls_New 1000 77 w
  rw [show clipS 1000 = 1000 from rfl] at c1
  have c2 := fun b key fp w hR hin => calls_lBuildN b g hg hl a c key fp w hR hin
  have c3 := fun w h => calls_rBuild g hg hl a c w h
  have p1 := calls_Pick pick (g.length + 1) (by omega) (by omega) hp
  have hres := (bst_all hg hl).len
  have i1 := pickF_lt (n := pick) (many := g.length + 1) (by omega)
  have r1 : (ints .i64 (buildF [] [0] g).2)[pickF pick (g.length + 1)]? = some (.int .i64 (gId g pick)) := ints_getD (by omega)
  (repeat' ((conv => whnf); first | (refine CallK_new (fun w hR => c1 w) ?_; rintro _ _ ⟨bn, fpn, rfl, rfl⟩; refine ⟨.v _, rfl, ?_⟩) | rw [Int.toNat_natCast] | rw [Nat.mul_one] | (first | refine CallK_pure (.v _) (fun w hR => p1 w) ?_ | refine QCall_pure (.v _) (fun w hR => p1 w) ?_) | refine ⟨_, rdO 804 rfl r1, ?_⟩ | (refine CallK_pack (key := 77) rfl (fun w hR h0 => c2 _ _ _ _ h0 (inCast1 hin hR)) ?_; rintro _ _ ⟨a5, c5, fp5, hn5, rfl, rfl⟩; refine ⟨.v _, rfl, ?_⟩) | ((refine CallK_new (fun w hR => c3 w (hin.cast hR (by simp))) ?_); rintro _ _ ⟨a1, c1, a2, c2, a3, c3, rfl, rfl⟩; refine ⟨.v _, rfl, ?_⟩) | refine ⟨_, ⟨rfl, trivial⟩, ?_⟩ | refine VC_drop 5 ?_ | (refine bcase_prop (fun h => ?_) (fun h => ?_) <;> try (exfalso; omega)) | (refine bcase_nprop (fun h => ?_) (fun h => ?_) <;> try (exfalso; omega)) | (refine bcase_intro (fun h => ?_) (fun h => ?_) <;> (try simp only [Bool.not_eq_true', Bool.not_eq_false', decide_eq_true_eq, decide_eq_false_iff_not, Bool.not_eq_true, Bool.not_eq_false, Decidable.not_not] at h)) | refine And.intro (by first | omega | exact rfl | assumption | exact ⟨rfl, rfl, rfl, rfl, rfl⟩ | exact ⟨rfl, rfl, rfl, rfl⟩ | exact ⟨rfl, by omega⟩ | exact oneAll_of rfl | exact ⟨rfl, oneAll_of rfl⟩ | exact Ref.refl _ | exact Thin.ref (.skip (Thin.refl _)) | exact Thin.ref (.skip (.skip (Thin.refl _))) | exact hn5 | exact Thin.ref (by (repeat (first | exact Thin.nil _ | exact Thin.refl _ | refine Thin.keep rfl (fun _ h => h) ?_ | refine Thin.skip ?_))) | exact ⟨rfl, Nat.le_of_ble_eq_true rfl⟩ | ((try unfold maxLen); (try simp only [List.length_nil, List.length_cons, List.length_append]); omega) | (refine ⟨rfl, ?_⟩; (try simp only [List.length_nil, List.length_cons, List.length_append]); omega)) ?_ | intro _)); (all_goals (conv => whnf))
  all_goals (refine ⟨⟨_, (refPick 77 rfl).trans (Thin.ref ?_), _, a1, c1, a2, c2, fp5, rfl, rfl⟩⟩)
  all_goals exact .keep rfl (fun _ h => h) (.skip (.keep rfl (fun _ h => h) (.keep rfl (fun _ h => h) (.nil _))))
end Go.Proofs.Ytohlphngnhcbfaa
/- A slice of makes that came in. No condition. -/
namespace Go.Proofs.Ytohlphngnhcbfaa
open Go.EG
set_option linter.unusedVariables false

theorem mak_of {vs : List Value} (h : RecOk [.i64, .u8, .i64, .i64, .i64] vs) : ∃ r : Rul, vs = ruC r ∧ MakB r := by
  match vs, h with
  | [.int k0 n0, .int k1 n1, .int k2 n2, .int k3 n3, .int k4 n4], h =>
    obtain ⟨⟨rfl, w0⟩, ⟨rfl, w1⟩, ⟨rfl, w2⟩, ⟨rfl, w3⟩, ⟨rfl, w4⟩, _⟩ := h
    have h0 := wf_i64 w0
    have h1 := wf_u8 w1
    have h2 := wf_i64 w2
    have h3 := wf_i64 w3
    have h4 := wf_i64 w4
    exact ⟨⟨n0, n1, n2, n3, n4⟩, rfl, ⟨h0, ⟨h1.1, by have := h1.2; show n1 < 256; omega⟩, h2, h3, h4⟩⟩
theorem maks_of : ∀ {rows : List (List Value)}, (∀ vs ∈ rows, RecOk [.i64, .u8, .i64, .i64, .i64] vs) →
    ∃ g : List Rul, rows.flatten = rulsC g ∧ g.length = rows.length ∧ ∀ i, i < g.length → MakB (g.getD i rul0)
  | [], _ => ⟨[], rfl, rfl, fun i h => absurd h (Nat.not_lt_zero i)⟩
  | vs :: rows, h => by
    obtain ⟨r, rfl, h1⟩ := mak_of (h vs List.mem_cons_self)
    obtain ⟨g, e1, e2, e3⟩ := maks_of fun vs hv => h vs (List.mem_cons_of_mem _ hv)
    refine ⟨r :: g, ?_, by simp [e2], fun i hi => ?_⟩
    · rw [List.flatten_cons, e1]; simp [rulsC]
    · cases i with
      | zero => exact h1
      | succ i => exact e3 i (by simpa using hi)
end Go.Proofs.Ytohlphngnhcbfaa
/- The way to a letter: the program. -/
namespace Go.Proofs.Ytohlphngnhcbfaa
open Go.EG
attribute [local irreducible] CallK QCall Go.Calls
set_option linter.unusedSimpArgs false
set_option linter.unusedVariables false
set_option maxRecDepth 20000
set_option maxHeartbeats 2000000

/-- What Path hands back. -/
def pthQ (key b : Nat) (S : Sto) (P : List Int) (v : Value) (L1 : List Ent) : Prop :=
  ∃ a c fp', v = .tuple #[.slice a P.length c, .nilIface] ∧ L1 = [packE key fp' (fS b S), .own 805 a P.length c ty_api_ID 1 (ints .i64 P)]
structure PthG where
  id : Int
  i : Nat
  acc : List Int
  a : Option Addr
  c : Nat
  fp : List Nat
theorem calls_Path (b : Nat) (S : Sto) (hw : WF S) (n i : Int) (hk : known S n) (h0 : 0 ≤ i) (hi : i < (tm S.E n).len) (key : Nat) (fp : List Nat) (w : World) (hR : StR w key fp b S) :
    Calls Try.prog fn_access_Path #[pS b, .int .i64 n, .int .i64 i] w fun e w' => ∃ v L1, e = .returned v ∧ R w fp L1 w' ∧ pthQ key b S (pathL S.E n i.toNat) v L1 := by
  refine part_call [.v (pS b), .v (.int .i64 n), .v (.int .i64 i)] ok_access_Path (by simp) (hR.key 77) ?_
  have hsm := hw.small
  have c0 := calls_SWeight b S n hsm
  rw [wtRes_ok hk] at c0
  have hi' : 0 ≤ i ∧ i < ((tm S.E n).txt.length : Nat) := ⟨h0, hi⟩
  have hn1 : 1 ≤ n := by
    have := hk.1
    by_cases h0 : n = 0
    · subst h0; rw [tm_zero] at hi; simp [Tm.len, Tm.txt] at hi; omega
    · omega
  generalize hP : pathL S.E n i.toNat = P at *
  (repeat' ((conv => whnf); first | (refine CallK_pack (key := 77) rfl (fun w hR h0 => c0 _ _ _ h0) ?_; rintro _ _ ⟨rfl, fp', rfl⟩; refine ⟨.v _, rfl, ?_⟩) | (refine bcase_prop (fun h => ?_) (fun h => ?_) <;> try (exfalso; omega)) | (refine bcase_nprop (fun h => ?_) (fun h => ?_) <;> try (exfalso; omega)) | (refine bcase_intro (fun h => ?_) (fun h => ?_) <;> (try simp only [Bool.not_eq_true', Bool.not_eq_false', decide_eq_true_eq, decide_eq_false_iff_not, Bool.not_eq_true, Bool.not_eq_false, Decidable.not_not] at h)) | refine And.intro (by first | omega | exact rfl | assumption | exact ⟨rfl, rfl, rfl, rfl, rfl⟩ | exact ⟨rfl, rfl, rfl, rfl⟩ | exact ⟨rfl, by omega⟩ | exact oneAll_of rfl | exact ⟨rfl, oneAll_of rfl⟩ | exact Ref.refl _ | exact Thin.ref (.skip (Thin.refl _)) | exact Thin.ref (.skip (.skip (Thin.refl _))) | exact ⟨rfl, Nat.le_of_ble_eq_true rfl⟩ | ((try unfold maxLen); (try simp only [List.length_nil, List.length_cons, List.length_append]); omega) | (refine ⟨rfl, ?_⟩; (try simp only [List.length_nil, List.length_cons, List.length_append]); omega)) ?_ | intro _)); (all_goals (conv => whnf))
  refine VC_loop PthG (fun x => [(0, .v (pS b)), (1, .v (.int .i64 x.id)), (2, .v (.int .i64 x.i)), (10, .sl 805 x.a x.acc.length x.c)]) (fun x => [packE 77 x.fp (fS b S), .own 805 x.a x.acc.length x.c ty_api_ID 1 (ints .i64 x.acc)])
    (fun x => 1 ≤ x.id ∧ x.id ≤ S.E.length ∧ x.i < (tm S.E x.id).len ∧ x.acc ++ pathL S.E x.id x.i = P ∧ x.acc.length + x.id ≤ n) (fun x => x.id.toNat) ⟨n, i.toNat, [], none, 0, fp'⟩ ⟨hn1, hk.2, by dsimp only; omega, by simpa using hP, by simp⟩ (by (repeat ((conv => whnf); refine And.intro (by first | exact rfl | exact vint_eq (by omega) | exact vint_eq (by (dsimp only; omega)) | exact vsl_eq (by omega) | exact vsl_eq (by first | (dsimp only; omega) | (simp; done) | (simp; omega))) ?_)); exact trivial) ((Ref.ownNil 805 ty_api_ID 1).trans ((refPick 77 rfl).trans (Thin.ref (by (repeat (first | exact Thin.nil _ | exact Thin.refl _ | refine Thin.keep rfl (fun _ h => h) ?_ | refine Thin.skip ?_)))))) ?_
  rintro ⟨m, j, acc, a, c, fpx⟩ ⟨h1, h2, h3, h4, h5⟩
  dsimp only at h1 h2 h3 h4 h5 ⊢
  have c1 := calls_Rule b S m hsm
  rw [ruleV_ok h1 h2] at c1
  have hlm := hw.le h2
  have hsn := ints_snoc .i64 acc m
  have hnn := hk.2
  rcases hw.below h1 h2 with ⟨hk1, ht⟩ | ⟨hk1, ht, a1, a2, b1, b2⟩ | ⟨hk1, ht, a1, a2, t2⟩
  · rw [pathL_let hk1] at h4
    subst h4
    (repeat' ((conv => whnf); first | rw [hsn] | (refine CallK_pack (key := 77) rfl (fun w hR h0 => c1 _ _ _ h0) ?_; rintro _ _ ⟨rfl, fp', rfl⟩; refine ⟨.v _, rfl, ?_⟩) | refine ⟨_, ⟨rfl, trivial⟩, ?_⟩ | (refine bcase_prop (fun h => ?_) (fun h => ?_) <;> try (exfalso; omega)) | (refine bcase_nprop (fun h => ?_) (fun h => ?_) <;> try (exfalso; omega)) | (refine bcase_intro (fun h => ?_) (fun h => ?_) <;> (try simp only [Bool.not_eq_true', Bool.not_eq_false', decide_eq_true_eq, decide_eq_false_iff_not, Bool.not_eq_true, Bool.not_eq_false, Decidable.not_not] at h)) | refine And.intro (by first | omega | exact rfl | assumption | exact ⟨rfl, rfl, rfl, rfl, rfl⟩ | exact ⟨rfl, rfl, rfl, rfl⟩ | exact ⟨rfl, by omega⟩ | exact oneAll_of rfl | exact ⟨rfl, oneAll_of rfl⟩ | exact Ref.refl _ | exact Thin.ref (.skip (Thin.refl _)) | exact Thin.ref (.skip (.skip (Thin.refl _))) | exact ⟨by unfold maxLen; omega, by omega⟩ | exact ⟨rfl, Nat.le_of_ble_eq_true rfl⟩ | ((try unfold maxLen); (try simp only [List.length_nil, List.length_cons, List.length_append]); omega) | (refine ⟨rfl, ?_⟩; (try simp only [List.length_nil, List.length_cons, List.length_append]); omega)) ?_ | intro _)); (all_goals (conv => whnf))
    all_goals first | (exfalso; omega) | skip
    rename_i a' c' b11
    exact ⟨⟨_, (refPick 77 rfl).trans (Thin.ref (Thin.packE (.skip (.skip (.own (by simp) rfl (.nil _)))))), a', c', _, by simp, rfl⟩⟩
  · have c2 := calls_SWeight b S (atE S.E m).r.a hsm
    rw [wtRes_ok ⟨by omega, by omega⟩] at c2
    have hp := hw.pos1 a1 (by omega)
    have hla := hw.le (n := (atE S.E m).r.a) (by omega)
    have c3 := calls_below (atE S.E m).r (tm S.E (atE S.E m).r.a).len j hp hla (by unfold LM at *; omega)
    rw [if_neg (by omega)] at c3
    rw [ht, Tm.len_pr] at h3
    by_cases hlt : j < (tm S.E (atE S.E m).r.a).len
    · rw [if_pos hlt] at c3
      rw [pathL_left hk1 a1 a2 hlt] at h4
      unfold Tm.len at c3 hlt
      (repeat' ((conv => whnf); first | rw [hsn] | (refine CallK_pack (key := 77) rfl (fun w hR h0 => c1 _ _ _ h0) ?_; rintro _ _ ⟨rfl, fp', rfl⟩; refine ⟨.v _, rfl, ?_⟩) | (refine CallK_pack (key := 77) rfl (fun w hR h0 => c2 _ _ _ h0) ?_; rintro _ _ ⟨rfl, fp', rfl⟩; refine ⟨.v _, rfl, ?_⟩) | (first | refine CallK_pure (.v _) (fun w hR => c3 w) ?_ | refine QCall_pure (.v _) (fun w hR => c3 w) ?_) | refine ⟨_, ⟨rfl, trivial⟩, ?_⟩ | (refine bcase_prop (fun h => ?_) (fun h => ?_) <;> try (exfalso; omega)) | (refine bcase_nprop (fun h => ?_) (fun h => ?_) <;> try (exfalso; omega)) | (refine bcase_intro (fun h => ?_) (fun h => ?_) <;> (try simp only [Bool.not_eq_true', Bool.not_eq_false', decide_eq_true_eq, decide_eq_false_iff_not, Bool.not_eq_true, Bool.not_eq_false, Decidable.not_not] at h)) | refine And.intro (by first | omega | exact rfl | assumption | exact ⟨rfl, rfl, rfl, rfl, rfl⟩ | exact ⟨rfl, rfl, rfl, rfl⟩ | exact ⟨rfl, by omega⟩ | exact oneAll_of rfl | exact ⟨rfl, oneAll_of rfl⟩ | exact Ref.refl _ | exact Thin.ref (.skip (Thin.refl _)) | exact Thin.ref (.skip (.skip (Thin.refl _))) | exact ⟨by unfold maxLen; omega, by omega⟩ | exact ⟨rfl, Nat.le_of_ble_eq_true rfl⟩ | ((try unfold maxLen); (try simp only [List.length_nil, List.length_cons, List.length_append]); omega) | (refine ⟨rfl, ?_⟩; (try simp only [List.length_nil, List.length_cons, List.length_append]); omega)) ?_ | intro _)); (all_goals (conv => whnf))
      rename_i a' c' fq b11 b13
      refine loop_next ⟨(atE S.E m).r.a, j, acc ++ [m], a', c', fp'⟩ ⟨a1, by dsimp only; omega, hlt, by simpa using h4, by simp only [List.length_append, List.length_cons, List.length_nil]; omega⟩ (by ((try dsimp only); omega)) (by (repeat ((conv => whnf); refine And.intro (by first | exact rfl | exact vint_eq (by omega) | exact vint_eq (by (dsimp only; omega)) | exact vsl_eq (by omega) | exact vsl_eq (by first | (dsimp only; omega) | (simp; done) | (simp; omega))) ?_)); exact trivial) ((refPick 77 rfl).trans (Thin.ref ?_))
      exact .keep rfl (fun _ h => h) (.skip (.skip (.skip (.own (by simp) rfl (.nil _)))))
    · rw [if_neg hlt] at c3
      rw [pathL_right hk1 b1 b2 hlt] at h4
      have h6 : j - (tm S.E (atE S.E m).r.a).len < (tm S.E (atE S.E m).r.b).len := by omega
      unfold Tm.len at c3
      (repeat' ((conv => whnf); first | rw [hsn] | (refine CallK_pack (key := 77) rfl (fun w hR h0 => c1 _ _ _ h0) ?_; rintro _ _ ⟨rfl, fp', rfl⟩; refine ⟨.v _, rfl, ?_⟩) | (refine CallK_pack (key := 77) rfl (fun w hR h0 => c2 _ _ _ h0) ?_; rintro _ _ ⟨rfl, fp', rfl⟩; refine ⟨.v _, rfl, ?_⟩) | (first | refine CallK_pure (.v _) (fun w hR => c3 w) ?_ | refine QCall_pure (.v _) (fun w hR => c3 w) ?_) | refine ⟨_, ⟨rfl, trivial⟩, ?_⟩ | (refine bcase_prop (fun h => ?_) (fun h => ?_) <;> try (exfalso; omega)) | (refine bcase_nprop (fun h => ?_) (fun h => ?_) <;> try (exfalso; omega)) | (refine bcase_intro (fun h => ?_) (fun h => ?_) <;> (try simp only [Bool.not_eq_true', Bool.not_eq_false', decide_eq_true_eq, decide_eq_false_iff_not, Bool.not_eq_true, Bool.not_eq_false, Decidable.not_not] at h)) | refine And.intro (by first | omega | exact rfl | assumption | exact ⟨rfl, rfl, rfl, rfl, rfl⟩ | exact ⟨rfl, rfl, rfl, rfl⟩ | exact ⟨rfl, by omega⟩ | exact oneAll_of rfl | exact ⟨rfl, oneAll_of rfl⟩ | exact Ref.refl _ | exact Thin.ref (.skip (Thin.refl _)) | exact Thin.ref (.skip (.skip (Thin.refl _))) | exact ⟨by unfold maxLen; omega, by omega⟩ | exact ⟨rfl, Nat.le_of_ble_eq_true rfl⟩ | ((try unfold maxLen); (try simp only [List.length_nil, List.length_cons, List.length_append]); omega) | (refine ⟨rfl, ?_⟩; (try simp only [List.length_nil, List.length_cons, List.length_append]); omega)) ?_ | intro _)); (all_goals (conv => whnf))
      rename_i a' c' fq b11 b13
      refine loop_next ⟨(atE S.E m).r.b, j - (tm S.E (atE S.E m).r.a).len, acc ++ [m], a', c', fp'⟩ ⟨b1, by dsimp only; omega, h6, by simpa using h4, by simp only [List.length_append, List.length_cons, List.length_nil]; omega⟩ (by ((try dsimp only); omega)) (by (repeat ((conv => whnf); refine And.intro (by first | exact rfl | exact vint_eq (by omega) | exact vint_eq (by (dsimp only; omega)) | exact vsl_eq (by omega) | exact vsl_eq (by first | (dsimp only; omega) | (simp; done) | (simp; omega))) ?_)); exact trivial) ((refPick 77 rfl).trans (Thin.ref ?_))
      exact .keep rfl (fun _ h => h) (.skip (.skip (.skip (.own (by simp) rfl (.nil _)))))
  · have c2 := calls_SWeight b S (atE S.E m).r.a hsm
    rw [wtRes_ok ⟨by omega, by omega⟩] at c2
    have hp := hw.pos1 a1 (by omega)
    have hla := hw.le (n := (atE S.E m).r.a) (by omega)
    have c3 := calls_below (atE S.E m).r (tm S.E (atE S.E m).r.a).len j hp hla (by unfold LM at *; omega)
    rw [if_pos hk1] at c3
    rw [ht, Tm.len_pw] at h3
    rw [pathL_pow hk1 a1 a2] at h4
    have h6 := Nat.mod_lt j (show 0 < (tm S.E (atE S.E m).r.a).len by omega)
    unfold Tm.len at c3
    (repeat' ((conv => whnf); first | rw [hsn] | (refine CallK_pack (key := 77) rfl (fun w hR h0 => c1 _ _ _ h0) ?_; rintro _ _ ⟨rfl, fp', rfl⟩; refine ⟨.v _, rfl, ?_⟩) | (refine CallK_pack (key := 77) rfl (fun w hR h0 => c2 _ _ _ h0) ?_; rintro _ _ ⟨rfl, fp', rfl⟩; refine ⟨.v _, rfl, ?_⟩) | (first | refine CallK_pure (.v _) (fun w hR => c3 w) ?_ | refine QCall_pure (.v _) (fun w hR => c3 w) ?_) | refine ⟨_, ⟨rfl, trivial⟩, ?_⟩ | (refine bcase_prop (fun h => ?_) (fun h => ?_) <;> try (exfalso; omega)) | (refine bcase_nprop (fun h => ?_) (fun h => ?_) <;> try (exfalso; omega)) | (refine bcase_intro (fun h => ?_) (fun h => ?_) <;> (try simp only [Bool.not_eq_true', Bool.not_eq_false', decide_eq_true_eq, decide_eq_false_iff_not, Bool.not_eq_true, Bool.not_eq_false, Decidable.not_not] at h)) | refine And.intro (by first | omega | exact rfl | assumption | exact ⟨rfl, rfl, rfl, rfl, rfl⟩ | exact ⟨rfl, rfl, rfl, rfl⟩ | exact ⟨rfl, by omega⟩ | exact oneAll_of rfl | exact ⟨rfl, oneAll_of rfl⟩ | exact Ref.refl _ | exact Thin.ref (.skip (Thin.refl _)) | exact Thin.ref (.skip (.skip (Thin.refl _))) | exact ⟨by unfold maxLen; omega, by omega⟩ | exact ⟨rfl, Nat.le_of_ble_eq_true rfl⟩ | ((try unfold maxLen); (try simp only [List.length_nil, List.length_cons, List.length_append]); omega) | (refine ⟨rfl, ?_⟩; (try simp only [List.length_nil, List.length_cons, List.length_append]); omega)) ?_ | intro _)); (all_goals (conv => whnf))
    rename_i a' c' fq b11 b13
    refine loop_next ⟨(atE S.E m).r.a, j % (tm S.E (atE S.E m).r.a).len, acc ++ [m], a', c', fp'⟩ ⟨a1, by dsimp only; omega, h6, by simpa using h4, by simp only [List.length_append, List.length_cons, List.length_nil]; omega⟩ (by ((try dsimp only); omega)) (by (repeat ((conv => whnf); refine And.intro (by first | exact rfl | exact vint_eq (by omega) | exact vint_eq (by (dsimp only; omega)) | exact vsl_eq (by omega) | exact vsl_eq (by first | (dsimp only; omega) | (simp; done) | (simp; omega))) ?_)); exact trivial) ((refPick 77 rfl).trans (Thin.ref ?_))
    exact .keep rfl (fun _ h => h) (.skip (.skip (.skip (.own (by simp) rfl (.nil _)))))
end Go.Proofs.Ytohlphngnhcbfaa
/- The letters of a range: the program. -/
namespace Go.Proofs.Ytohlphngnhcbfaa
open Go.EG
attribute [local irreducible] CallK QCall Go.Calls
set_option linter.unusedSimpArgs false
set_option linter.unusedVariables false
set_option maxRecDepth 20000
set_option maxHeartbeats 4000000

/-! ### Plain -/

def byC (t : List Nat) : List Value := t.map fun x : Nat => Value.int .u8 (x : Int)
theorem byC_length (t : List Nat) : (byC t).length = t.length := by simp [byC]
theorem byC_append (s t : List Nat) : byC s ++ byC t = byC (s ++ t) := by simp [byC]
theorem oneAll_by (t : List Nat) : oneAll (byC t) := by
  induction t with
  | nil => exact trivial
  | cons x t ih => exact ⟨trivial, ih⟩
abbrev cpC (x : Int × Nat) : List Value := [.int .i64 x.1, .int .i64 x.2]
def cpsC (l : List (Int × Nat)) : List Value := l.flatMap cpC
theorem cpsC_length : ∀ g : List (Int × Nat), (cpsC g).length = g.length * 2
  | [] => rfl
  | x :: g => by
    have := cpsC_length g
    simp only [cpsC, List.flatMap_cons, List.length_append, List.length_cons, List.length_nil] at this ⊢
    omega
theorem cpsC_append (g h : List (Int × Nat)) : cpsC g ++ cpsC h = cpsC (g ++ h) := by simp [cpsC]
theorem cpsC_take (g : List (Int × Nat)) (x : Int × Nat) : (cpsC (g ++ [x])).take (g.length * 2) = cpsC g := by
  rw [← cpsC_append, ← cpsC_length, List.take_left]
theorem cpsC_fst (g : List (Int × Nat)) (x : Int × Nat) : (cpsC (g ++ [x]))[g.length * 2]? = some (.int .i64 x.1) := by
  rw [← cpsC_append, ← cpsC_length, List.getElem?_append_right (Nat.le_refl _), Nat.sub_self]; rfl
theorem cpsC_snd (g : List (Int × Nat)) (x : Int × Nat) : (cpsC (g ++ [x]))[g.length * 2 + 1]? = some (.int .i64 x.2) := by
  rw [← cpsC_append, ← cpsC_length, List.getElem?_append_right (by omega), show (cpsC g).length + 1 - (cpsC g).length = 1 by omega]; rfl
theorem cpsC_set (g : List (Int × Nat)) (x : Int × Nat) (n : Nat) : splice (cpsC (g ++ [x])) (g.length * 2 + 1) [.int .i64 n] = cpsC (g ++ [(x.1, n)]) := by
  rw [← cpsC_append, ← cpsC_append, ← cpsC_length]
  unfold splice
  rw [List.take_append, List.take_of_length_le (by omega), show (cpsC g).length + 1 - (cpsC g).length = 1 by omega, List.drop_append, List.drop_eq_nil_of_le (by simp; omega)]
  rw [show (cpsC g).length + 1 + [Value.int .i64 (n : Int)].length - (cpsC g).length = 2 by simp; omega]
  simp [cpsC]

def cpTx (E : List Entr) : List (Int × Nat) → List Nat
  | [] => []
  | x :: st => cpTx E st ++ rep x.2 (tm E x.1).txt
theorem cpTx_append (E : List Entr) : ∀ (s t : List (Int × Nat)), cpTx E (s ++ t) = cpTx E t ++ cpTx E s
  | [], t => by simp [cpTx]
  | x :: s, t => by rw [List.cons_append, cpTx, cpTx_append E s t, cpTx, List.append_assoc]
def wkT : Tm → Nat
  | .nil => 0
  | .lt _ => 1
  | .pr a b => 1 + wkT a + wkT b
  | .pw a k => 1 + k * wkT a
def wkC (E : List Entr) : List (Int × Nat) → Nat
  | [] => 0
  | x :: st => x.2 * wkT (tm E x.1) + wkC E st
theorem wkC_append (E : List Entr) : ∀ (s t : List (Int × Nat)), wkC E (s ++ t) = wkC E s + wkC E t
  | [], t => by simp [wkC]
  | x :: s, t => by rw [List.cons_append, wkC, wkC_append E s t, wkC]; omega
def okCp (S : Sto) (st : List (Int × Nat)) : Prop := ∀ x ∈ st, 1 ≤ x.1 ∧ x.1 ≤ S.E.length ∧ 1 ≤ x.2
theorem okCp.snoc {S : Sto} {st : List (Int × Nat)} {x : Int × Nat} (h : okCp S st) (hx : 1 ≤ x.1 ∧ x.1 ≤ S.E.length ∧ 1 ≤ x.2) : okCp S (st ++ [x]) := fun y hy => by
  rcases List.mem_append.1 hy with hy | hy
  · exact h y hy
  · have : y = x := by simpa using hy
    rw [this]; exact hx
theorem okCp.init {S : Sto} {st : List (Int × Nat)} {x : Int × Nat} (h : okCp S (st ++ [x])) : okCp S st := fun y hy => h y (List.mem_append_left _ hy)
theorem okCp.last {S : Sto} {st : List (Int × Nat)} {x : Int × Nat} (h : okCp S (st ++ [x])) : 1 ≤ x.1 ∧ x.1 ≤ S.E.length ∧ 1 ≤ x.2 := h x (by simp)
theorem okCp.len {S : Sto} (hw : WF S) : ∀ {st : List (Int × Nat)}, okCp S st → st.length ≤ (cpTx S.E st).length
  | [], _ => Nat.zero_le _
  | x :: st, h => by
    have ih := okCp.len hw (st := st) fun y hy => h y (List.mem_cons_of_mem _ hy)
    obtain ⟨h1, h2, h3⟩ := h x List.mem_cons_self
    have hp := hw.pos1 h1 h2
    unfold Tm.len at hp
    rw [cpTx, List.length_append, rep_length, List.length_cons]
    have : 1 * 1 ≤ x.2 * (tm S.E x.1).txt.length := Nat.mul_le_mul h3 hp
    omega

/-- A range of a row of bytes of one's own, read. -/
theorem rdsO {w0 : World} {fp0 : List Nat} {L : List Ent} (key bk : Nat) {n c T i m : Nat} {xs ys : List Value} (h : ownAt key L = some ⟨some ⟨bk, 0, none⟩, n, c, T, 1, xs⟩) (hi : i < c) (hy : (xs.drop i).take m = ys) (hm : m = ys.length) : RdS w0 fp0 L (offA (some ⟨bk, 0, none⟩) c i 1) (m * 1) ys := by
  refine ⟨by rw [Nat.mul_one, hm], ?_⟩
  by_cases h0 : ys = []
  · exact .inl h0
  · refine .inr fun w hR => ⟨bk, i, ?_, fun j v hv => ?_⟩
    · unfold offA
      rw [if_neg (by omega), Nat.mul_one]
      simp [Addr.add]
      try omega
    · have hx : xs[i + j]? = some v := by
        rw [← hy, List.getElem?_take] at hv
        split at hv
        · simpa using hv
        · cases hv
      obtain ⟨g, ha, hc⟩ := cell_own hR h hx
      simp only [Option.some.injEq, Addr.mk.injEq, and_true] at ha
      subst ha
      exact hc

/-! ### A whole text -/

structure SpG where
  acc : List Nat
  st : List (Int × Nat)
  a : Option Addr
  c : Nat
  fp : List Nat
theorem calls_spell (b : Nat) (S : Sto) (hw : WF S) (x : Int) (h1 : 1 ≤ x) (h2 : x ≤ S.E.length) (bt bk c : Nat) (hc : c ≤ 65536) (acc : List Nat) (hfit : (acc ++ (tm S.E x).txt).length ≤ c) (fp fps : List Nat) (w : World)
    (hR : R w fp [packE 77 fps (fS b S), .box 13 bt [.slice (some ⟨bk, 0, none⟩) acc.length c] ty_Sl_uint8, .own 35 (some ⟨bk, 0, none⟩) acc.length c ty_uint8 1 (byC acc)] w) :
    Calls Try.prog fn_access_spell #[pS b, .int .i64 x, .pointer (some ⟨bt, 0, none⟩)] w fun e w' => ∃ v L1, e = .returned v ∧ R w fp L1 w' ∧ v = .nilIface ∧ ∃ fp', L1 = [packE 77 fp' (fS b S), .box 13 bt [.slice (some ⟨bk, 0, none⟩) (acc ++ (tm S.E x).txt).length c] ty_Sl_uint8, .own 35 (some ⟨bk, 0, none⟩) (acc ++ (tm S.E x).txt).length c ty_uint8 1 (byC (acc ++ (tm S.E x).txt))] := by
  refine part_call [.v (pS b), .v (.int .i64 x), .ptr 13 bt 0] ok_access_spell (by simp) hR ?_
  have hsm := hw.small
  generalize hT : acc ++ (tm S.E x).txt = T at *
  (repeat' ((conv => whnf); first | (refine bcase_prop (fun h => ?_) (fun h => ?_) <;> try (exfalso; omega)) | (refine bcase_nprop (fun h => ?_) (fun h => ?_) <;> try (exfalso; omega)) | (refine bcase_intro (fun h => ?_) (fun h => ?_) <;> (try simp only [Bool.not_eq_true', Bool.not_eq_false', decide_eq_true_eq, decide_eq_false_iff_not, Bool.not_eq_true, Bool.not_eq_false, Decidable.not_not] at h)) | refine And.intro (by first | omega | exact rfl | assumption | exact ⟨rfl, rfl, rfl, rfl, rfl⟩ | exact ⟨rfl, rfl, rfl, rfl⟩ | exact ⟨rfl, by omega⟩ | exact oneAll_of rfl | exact ⟨rfl, oneAll_of rfl⟩ | exact Ref.refl _ | exact Thin.ref (.skip (Thin.refl _)) | exact Thin.ref (.skip (.skip (Thin.refl _))) | exact ⟨rfl, Nat.le_of_ble_eq_true rfl⟩ | ((try unfold maxLen); (try simp only [List.length_nil, List.length_cons, List.length_append]); omega) | (refine ⟨rfl, ?_⟩; (try simp only [List.length_nil, List.length_cons, List.length_append]); omega)) ?_ | intro _)); (all_goals (conv => whnf))
  rename_i b14
  refine VC_loop SpG (fun y => [(0, .v (pS b)), (2, .ptr 13 bt 0), (7, .sl 500 y.a y.st.length y.c)]) (fun y => [packE 77 y.fp (fS b S), .own 500 y.a y.st.length y.c ty_access_copies 2 (cpsC y.st), .box 13 bt [.slice (some ⟨bk, 0, none⟩) y.acc.length c] ty_Sl_uint8, .own 35 (some ⟨bk, 0, none⟩) y.acc.length c ty_uint8 1 (byC y.acc)])
    (fun y => okCp S y.st ∧ y.acc ++ cpTx S.E y.st = T) (fun y => wkC S.E y.st) ⟨acc, [(x, 1)], some ⟨b14, 0, none⟩, 1, fps⟩ ⟨?_, ?_⟩ (by (repeat ((conv => whnf); refine And.intro (by first | exact rfl | exact vint_eq (by omega) | exact vint_eq (by (dsimp only; omega)) | exact vsl_eq (by omega) | exact vsl_eq (by first | (dsimp only; omega) | (simp; done) | (simp; omega))) ?_)); exact trivial) ((refPick 77 rfl).trans (Thin.ref (.keep rfl (fun _ h => h) (.own rfl rfl (Thin.refl _))))) ?_
  · intro y hy
    have : y = (x, 1) := by simpa using hy
    rw [this]; exact ⟨h1, h2, Nat.le_refl _⟩
  · simp only [cpTx, List.nil_append]
    rw [rep_one]; exact hT
  rintro ⟨acc, st, a, cc, fpx⟩ ⟨k1, k2⟩
  dsimp only at k1 k2 ⊢
  have hlen : acc.length + (cpTx S.E st).length = T.length := by rw [← k2, List.length_append]
  have hsl := k1.len hw
  rcases List.eq_nil_or_concat st with rfl | ⟨s, y, rfl⟩
  · rw [cpTx, List.append_nil] at k2
    subst k2
    (repeat' ((conv => whnf); first | (refine bcase_prop (fun h => ?_) (fun h => ?_) <;> try (exfalso; omega)) | (refine bcase_nprop (fun h => ?_) (fun h => ?_) <;> try (exfalso; omega)) | (refine bcase_intro (fun h => ?_) (fun h => ?_) <;> (try simp only [Bool.not_eq_true', Bool.not_eq_false', decide_eq_true_eq, decide_eq_false_iff_not, Bool.not_eq_true, Bool.not_eq_false, Decidable.not_not] at h)) | refine And.intro (by first | omega | exact rfl | assumption | exact ⟨rfl, rfl, rfl, rfl, rfl⟩ | exact ⟨rfl, rfl, rfl, rfl⟩ | exact ⟨rfl, by omega⟩ | exact oneAll_of rfl | exact ⟨rfl, oneAll_of rfl⟩ | exact Ref.refl _ | exact Thin.ref (.skip (Thin.refl _)) | exact Thin.ref (.skip (.skip (Thin.refl _))) | exact ⟨rfl, Nat.le_of_ble_eq_true rfl⟩ | ((try unfold maxLen); (try simp only [List.length_nil, List.length_cons, List.length_append]); omega) | (refine ⟨rfl, ?_⟩; (try simp only [List.length_nil, List.length_cons, List.length_append]); omega)) ?_ | intro _)); (all_goals (conv => whnf))
    exact ⟨⟨_, Thin.ref (.keep rfl (fun _ h => h) (.skip (Thin.refl _))), rfl, fpx, rfl⟩⟩
  rw [List.concat_eq_append] at k1 k2 hlen hsl ⊢
  have hsb : (s ++ [y]).length ≤ 65536 := by omega
  obtain ⟨m, t⟩ := y
  obtain ⟨m1, m2, m3⟩ := k1.last
  have hs := k1.init
  dsimp only at m1 m2 m3
  obtain ⟨t, rfl⟩ : ∃ t', t = t' + 1 := ⟨t - 1, by omega⟩
  have hle : (s ++ [(m, t + 1)]).length = s.length + 1 := by simp
  have hidx : (((s ++ [(m, t + 1)]).length : Int) - 1).toNat = s.length := by omega
  have r1 := cpsC_fst s (m, t + 1)
  have r2 := cpsC_snd s (m, t + 1)
  have r3 := cpsC_set s (m, t + 1) t
  have r4 := cpsC_snd s (m, t)
  have r5 := cpsC_take s (m, t)
  dsimp only at r1 r2 r3 r4 r5
  have e1 : ((t + 1 : Nat) : Int) - 1 = (t : Nat) := by omega
  have hll : s.length * 2 + 1 + 1 ≤ (cpsC (s ++ [(m, t + 1)])).length := by rw [cpsC_length, hle]; omega
  have c1 := calls_Rule b S m hsm
  rw [ruleV_ok m1 m2] at c1
  have hpt : cpTx S.E (s ++ [(m, t + 1)]) = (tm S.E m).txt ++ cpTx S.E (s ++ [(m, t)]) := by
    rw [cpTx_append, cpTx_append]
    simp only [cpTx, List.nil_append]
    rw [rep_succ, List.append_assoc]
  have hwk : wkC S.E (s ++ [(m, t + 1)]) = wkT (tm S.E m) + wkC S.E (s ++ [(m, t)]) := by
    rw [wkC_append, wkC_append]
    simp only [wkC, Nat.add_mul, Nat.one_mul]; omega
  have hpos0 := hw.pos1 m1 m2
  have htb : t ≤ 65536 := by
    have h1 : (cpTx S.E (s ++ [(m, t + 1)])).length = (t + 1) * (tm S.E m).len + (cpTx S.E s).length := by
      rw [cpTx_append, List.length_append]
      simp only [cpTx, List.nil_append]
      rw [rep_length]; rfl
    have h2 : (t + 1) * 1 ≤ (t + 1) * (tm S.E m).len := Nat.mul_le_mul_left _ hpos0
    omega
  rw [hpt] at k2 hlen hsl
  rw [List.length_append] at hlen hsl
  have hpop : t = 0 → cpTx S.E (s ++ [(m, t)]) = cpTx S.E s ∧ wkC S.E (s ++ [(m, t)]) = wkC S.E s := fun h => by
    subst h
    refine ⟨?_, ?_⟩
    · rw [cpTx_append]; simp [cpTx, rep]
    · rw [wkC_append]; simp [wkC]
  have hkeep : t ≠ 0 → okCp S (s ++ [(m, t)]) := fun h => hs.snoc ⟨m1, m2, by show 1 ≤ t; omega⟩
  have hpos := hw.pos1 m1 m2
  unfold Tm.len at hpos
  -- what is left behind the copy
  obtain ⟨s', hs'1, hs'2, hs'3, hs'4⟩ : ∃ s', s' = (if t = 0 then s else s ++ [(m, t)]) ∧ okCp S s' ∧ cpTx S.E s' = cpTx S.E (s ++ [(m, t)]) ∧ wkC S.E s' = wkC S.E (s ++ [(m, t)]) := by
    by_cases h : t = 0
    · exact ⟨s, by rw [if_pos h], hs, (hpop h).1.symm, (hpop h).2.symm⟩
    · exact ⟨s ++ [(m, t)], by rw [if_neg h], hkeep h, rfl, rfl⟩
  rw [← hs'3] at k2 hlen hsl
  rw [← hs'4] at hwk
  have hl2 : ((s ++ [(m, t)]).length) = s.length + 1 := by simp
  rcases hw.below m1 m2 with ⟨q1, ht⟩ | ⟨q1, ht, a1, a2, b1, b2⟩ | ⟨q1, ht, a1, a2, t2⟩
  · obtain ⟨l, hl⟩ : ∃ l : Nat, (atE S.E m).r.l = l := ⟨(atE S.E m).r.l.toNat, by have := (hw.at_ m1 m2).2.1; omega⟩
    rw [hl, Int.toNat_natCast] at ht
    rw [ht] at k2 hlen hsl hwk
    simp only [Tm.txt, List.length_cons, List.length_nil] at k2 hlen hsl
    simp only [wkT] at hwk
    have hby : byC acc ++ [.int .u8 l] = byC (acc ++ [l]) := byC_append acc [l]
    have hal : (acc ++ [l]).length = acc.length + 1 := by simp
    by_cases h : t = 0
    · rw [if_pos h] at hs'1
      subst h hs'1
      (repeat' ((conv => whnf); first | rw [hidx] | rw [e1] | rw [r3] | rw [r5] | rw [hl] | rw [hby] | (refine CallK_pack (key := 77) rfl (fun w hR h0 => c1 _ _ _ h0) ?_; rintro _ _ ⟨rfl, fp', rfl⟩; refine ⟨.v _, rfl, ?_⟩) | refine ldCell r1 ?_ | refine ldCell r2 ?_ | refine ldCell r4 ?_ | refine ⟨.sl 35 _ _ _, ⟨rfl, rfl, rfl, rfl⟩, ?_⟩ | (refine bcase_prop (fun h => ?_) (fun h => ?_) <;> try (exfalso; omega)) | (refine bcase_nprop (fun h => ?_) (fun h => ?_) <;> try (exfalso; omega)) | (refine bcase_intro (fun h => ?_) (fun h => ?_) <;> (try simp only [Bool.not_eq_true', Bool.not_eq_false', decide_eq_true_eq, decide_eq_false_iff_not, Bool.not_eq_true, Bool.not_eq_false, Decidable.not_not] at h)) | refine And.intro (by first | omega | exact rfl | assumption | exact ⟨rfl, rfl, rfl, rfl, rfl⟩ | exact ⟨rfl, rfl, rfl, rfl⟩ | exact ⟨rfl, by omega⟩ | exact oneAll_of rfl | exact ⟨rfl, oneAll_of rfl⟩ | exact Ref.refl _ | exact Thin.ref (.skip (Thin.refl _)) | exact Thin.ref (.skip (.skip (Thin.refl _))) | exact ⟨rfl, hll⟩ | exact ⟨rfl, rfl, rfl, rfl, rfl, by omega, by omega⟩ | exact fun _ => Thin.ref (by (repeat (first | exact Thin.nil _ | exact Thin.refl _ | refine Thin.keep rfl (fun _ h => h) ?_ | refine Thin.skip ?_))) | exact ⟨rfl, Nat.le_of_ble_eq_true rfl⟩ | ((try unfold maxLen); (try simp only [List.length_nil, List.length_cons, List.length_append]); omega) | (refine ⟨rfl, ?_⟩; (try simp only [List.length_nil, List.length_cons, List.length_append]); omega)) ?_ | intro _)); (all_goals (conv => whnf))
      all_goals first | (exfalso; omega) | skip
      all_goals (refine loop_next ⟨acc ++ [l], _, a, cc, fp'⟩ ⟨hs'2, by simpa using k2⟩ (by ((try dsimp only); omega)) (by (repeat ((conv => whnf); refine And.intro (by first | exact rfl | exact vint_eq (by omega) | exact vint_eq (by (dsimp only; omega)) | exact vsl_eq (by omega) | exact vsl_eq (by first | (dsimp only; omega) | (simp; done) | (simp; omega))) ?_)); exact trivial) ((refPick 77 rfl).trans (Thin.ref ?_)))
      all_goals (repeat (first | exact Thin.nil _ | exact Thin.refl _ | refine Thin.keep rfl (fun _ h => h) ?_ | refine Thin.own (by first | rfl | (simp; done) | omega) rfl ?_ | refine Thin.box (by first | rfl | (simp; done)) ?_ | refine Thin.skip ?_))
    · rw [if_neg h] at hs'1
      subst hs'1
      (repeat' ((conv => whnf); first | rw [hidx] | rw [e1] | rw [r3] | (refine CallK_pack (key := 77) rfl (fun w hR h0 => c1 _ _ _ h0) ?_; rintro _ _ ⟨rfl, fp', rfl⟩; refine ⟨.v _, rfl, ?_⟩) | refine ldCell r1 ?_ | refine ldCell r2 ?_ | refine ldCell r4 ?_ | rw [hl] | rw [hby] | refine ⟨.sl 35 _ _ _, ⟨rfl, rfl, rfl, rfl⟩, ?_⟩ | (refine bcase_prop (fun h => ?_) (fun h => ?_) <;> try (exfalso; omega)) | (refine bcase_nprop (fun h => ?_) (fun h => ?_) <;> try (exfalso; omega)) | (refine bcase_intro (fun h => ?_) (fun h => ?_) <;> (try simp only [Bool.not_eq_true', Bool.not_eq_false', decide_eq_true_eq, decide_eq_false_iff_not, Bool.not_eq_true, Bool.not_eq_false, Decidable.not_not] at h)) | refine And.intro (by first | omega | exact rfl | assumption | exact ⟨rfl, rfl, rfl, rfl, rfl⟩ | exact ⟨rfl, rfl, rfl, rfl⟩ | exact ⟨rfl, by omega⟩ | exact oneAll_of rfl | exact ⟨rfl, oneAll_of rfl⟩ | exact Ref.refl _ | exact Thin.ref (.skip (Thin.refl _)) | exact Thin.ref (.skip (.skip (Thin.refl _))) | exact ⟨rfl, hll⟩ | exact ⟨rfl, rfl, rfl, rfl, rfl, by omega, by omega⟩ | exact fun _ => Thin.ref (by (repeat (first | exact Thin.nil _ | exact Thin.refl _ | refine Thin.keep rfl (fun _ h => h) ?_ | refine Thin.skip ?_))) | exact ⟨rfl, Nat.le_of_ble_eq_true rfl⟩ | ((try unfold maxLen); (try simp only [List.length_nil, List.length_cons, List.length_append]); omega) | (refine ⟨rfl, ?_⟩; (try simp only [List.length_nil, List.length_cons, List.length_append]); omega)) ?_ | intro _)); (all_goals (conv => whnf))
      all_goals first | (exfalso; omega) | skip
      all_goals (refine loop_next ⟨acc ++ [l], _, a, cc, fp'⟩ ⟨hs'2, by simpa using k2⟩ (by ((try dsimp only); omega)) (by (repeat ((conv => whnf); refine And.intro (by first | exact rfl | exact vint_eq (by omega) | exact vint_eq (by (dsimp only; omega)) | exact vsl_eq (by omega) | exact vsl_eq (by first | (dsimp only; omega) | (simp; done) | (simp; omega))) ?_)); exact trivial) ((refPick 77 rfl).trans (Thin.ref ?_)))
      all_goals (repeat (first | exact Thin.nil _ | exact Thin.refl _ | refine Thin.keep rfl (fun _ h => h) ?_ | refine Thin.own (by first | rfl | (simp; done) | omega) rfl ?_ | refine Thin.box (by first | rfl | (simp; done)) ?_ | refine Thin.skip ?_))
  · rw [ht] at k2 hwk
    simp only [Tm.txt, wkT] at k2 hwk
    have hsn : ∀ u : List (Int × Nat), cpsC u ++ [.int .i64 (atE S.E m).r.b, .int .i64 1, .int .i64 (atE S.E m).r.a, .int .i64 1] = cpsC (u ++ [((atE S.E m).r.b, 1), ((atE S.E m).r.a, 1)]) := fun u => cpsC_append u [((atE S.E m).r.b, 1), ((atE S.E m).r.a, 1)]
    have hok : okCp S (s' ++ [((atE S.E m).r.b, 1), ((atE S.E m).r.a, 1)]) := by
      have := (hs'2.snoc (x := ((atE S.E m).r.b, 1)) ⟨b1, by dsimp only; omega, Nat.le_refl _⟩).snoc (x := ((atE S.E m).r.a, 1)) ⟨a1, by dsimp only; omega, Nat.le_refl _⟩
      simpa using this
    have htx : acc ++ cpTx S.E (s' ++ [((atE S.E m).r.b, 1), ((atE S.E m).r.a, 1)]) = T := by
      rw [cpTx_append]
      simp only [cpTx, rep_one, List.nil_append, List.append_assoc] at k2 ⊢
      exact k2
    have hmu : wkC S.E (s' ++ [((atE S.E m).r.b, 1), ((atE S.E m).r.a, 1)]) < wkC S.E (s ++ [(m, t + 1)]) := by
      rw [wkC_append, hwk]
      simp only [wkC, Nat.one_mul]; omega
    have hul : ∀ u : List (Int × Nat), (u ++ [((atE S.E m).r.b, 1), ((atE S.E m).r.a, 1)]).length = u.length + 2 := fun u => by simp
    by_cases h : t = 0
    · rw [if_pos h] at hs'1
      subst h hs'1
      (repeat' ((conv => whnf); first | rw [hidx] | rw [e1] | rw [r3] | rw [r5] | (refine CallK_pack (key := 77) rfl (fun w hR h0 => c1 _ _ _ h0) ?_; rintro _ _ ⟨rfl, fp', rfl⟩; refine ⟨.v _, rfl, ?_⟩) | refine ldCell r1 ?_ | refine ldCell r2 ?_ | refine ldCell r4 ?_ | rw [hsn] | (refine bcase_prop (fun h => ?_) (fun h => ?_) <;> try (exfalso; omega)) | (refine bcase_nprop (fun h => ?_) (fun h => ?_) <;> try (exfalso; omega)) | (refine bcase_intro (fun h => ?_) (fun h => ?_) <;> (try simp only [Bool.not_eq_true', Bool.not_eq_false', decide_eq_true_eq, decide_eq_false_iff_not, Bool.not_eq_true, Bool.not_eq_false, Decidable.not_not] at h)) | refine And.intro (by first | omega | exact rfl | assumption | exact ⟨rfl, rfl, rfl, rfl, rfl⟩ | exact ⟨rfl, rfl, rfl, rfl⟩ | exact ⟨rfl, by omega⟩ | exact oneAll_of rfl | exact ⟨rfl, oneAll_of rfl⟩ | exact Ref.refl _ | exact Thin.ref (.skip (Thin.refl _)) | exact Thin.ref (.skip (.skip (Thin.refl _))) | exact ⟨rfl, hll⟩ | exact ⟨by unfold maxLen; omega, by omega⟩ | exact ⟨rfl, Nat.le_of_ble_eq_true rfl⟩ | ((try unfold maxLen); (try simp only [List.length_nil, List.length_cons, List.length_append]); omega) | (refine ⟨rfl, ?_⟩; (try simp only [List.length_nil, List.length_cons, List.length_append]); omega)) ?_ | intro _)); (all_goals (conv => whnf))
      all_goals first | (exfalso; omega) | skip
      all_goals rename_i a' c'
      all_goals (refine loop_next ⟨acc, _, a', c', fp'⟩ ⟨hok, htx⟩ hmu (by (repeat ((conv => whnf); refine And.intro (by first | exact rfl | exact vint_eq (by omega) | exact vint_eq (by (dsimp only; omega)) | exact vsl_eq (by omega) | exact vsl_eq (by first | (dsimp only; omega) | (simp; done) | (simp; omega))) ?_)); exact trivial) ((refPick 77 rfl).trans (Thin.ref ?_)))
      all_goals (repeat (first | exact Thin.nil _ | exact Thin.refl _ | refine Thin.keep rfl (fun _ h => h) ?_ | refine Thin.own (by first | rfl | (simp; done) | omega) rfl ?_ | refine Thin.box (by first | rfl | (simp; done)) ?_ | refine Thin.skip ?_))
    · rw [if_neg h] at hs'1
      have hsn' := hsn
      subst hs'1
      (repeat' ((conv => whnf); first | rw [hidx] | rw [e1] | rw [r3] | (refine CallK_pack (key := 77) rfl (fun w hR h0 => c1 _ _ _ h0) ?_; rintro _ _ ⟨rfl, fp', rfl⟩; refine ⟨.v _, rfl, ?_⟩) | refine ldCell r1 ?_ | refine ldCell r2 ?_ | refine ldCell r4 ?_ | rw [hsn] | (refine bcase_prop (fun h => ?_) (fun h => ?_) <;> try (exfalso; omega)) | (refine bcase_nprop (fun h => ?_) (fun h => ?_) <;> try (exfalso; omega)) | (refine bcase_intro (fun h => ?_) (fun h => ?_) <;> (try simp only [Bool.not_eq_true', Bool.not_eq_false', decide_eq_true_eq, decide_eq_false_iff_not, Bool.not_eq_true, Bool.not_eq_false, Decidable.not_not] at h)) | refine And.intro (by first | omega | exact rfl | assumption | exact ⟨rfl, rfl, rfl, rfl, rfl⟩ | exact ⟨rfl, rfl, rfl, rfl⟩ | exact ⟨rfl, by omega⟩ | exact oneAll_of rfl | exact ⟨rfl, oneAll_of rfl⟩ | exact Ref.refl _ | exact Thin.ref (.skip (Thin.refl _)) | exact Thin.ref (.skip (.skip (Thin.refl _))) | exact ⟨rfl, hll⟩ | exact ⟨by unfold maxLen; omega, by omega⟩ | exact ⟨rfl, Nat.le_of_ble_eq_true rfl⟩ | ((try unfold maxLen); (try simp only [List.length_nil, List.length_cons, List.length_append]); omega) | (refine ⟨rfl, ?_⟩; (try simp only [List.length_nil, List.length_cons, List.length_append]); omega)) ?_ | intro _)); (all_goals (conv => whnf))
      all_goals first | (exfalso; omega) | skip
      all_goals rename_i a' c'
      all_goals (refine loop_next ⟨acc, _, a', c', fp'⟩ ⟨hok, htx⟩ hmu (by (repeat ((conv => whnf); refine And.intro (by first | exact rfl | exact vint_eq (by omega) | exact vint_eq (by (dsimp only; omega)) | exact vsl_eq (by omega) | exact vsl_eq (by first | (dsimp only; omega) | (simp; done) | (simp; omega))) ?_)); exact trivial) ((refPick 77 rfl).trans (Thin.ref ?_)))
      all_goals (repeat (first | exact Thin.nil _ | exact Thin.refl _ | refine Thin.keep rfl (fun _ h => h) ?_ | refine Thin.own (by first | rfl | (simp; done) | omega) rfl ?_ | refine Thin.box (by first | rfl | (simp; done)) ?_ | refine Thin.skip ?_))
  · rw [ht] at k2 hwk
    obtain ⟨q, hq⟩ : ∃ q : Nat, (atE S.E m).r.t = q := ⟨(atE S.E m).r.t.toNat, by omega⟩
    rw [hq, Int.toNat_natCast] at k2 hwk
    simp only [Tm.txt, wkT] at k2 hwk
    have hsn : ∀ u : List (Int × Nat), cpsC u ++ [.int .i64 (atE S.E m).r.a, .int .i64 q] = cpsC (u ++ [((atE S.E m).r.a, q)]) := fun u => cpsC_append u [((atE S.E m).r.a, q)]
    have hok : okCp S (s' ++ [((atE S.E m).r.a, q)]) := hs'2.snoc (x := ((atE S.E m).r.a, q)) ⟨a1, by dsimp only; omega, by show 1 ≤ q; omega⟩
    have htx : acc ++ cpTx S.E (s' ++ [((atE S.E m).r.a, q)]) = T := by
      rw [cpTx_append]
      simp only [cpTx, List.nil_append] at k2 ⊢
      exact k2
    have hmu : wkC S.E (s' ++ [((atE S.E m).r.a, q)]) < wkC S.E (s ++ [(m, t + 1)]) := by
      rw [wkC_append, hwk]
      simp only [wkC]; omega
    have hul : ∀ u : List (Int × Nat), (u ++ [((atE S.E m).r.a, q)]).length = u.length + 1 := fun u => by simp
    by_cases h : t = 0
    · rw [if_pos h] at hs'1
      subst h hs'1
      (repeat' ((conv => whnf); first | rw [hidx] | rw [e1] | rw [r3] | rw [r5] | (refine CallK_pack (key := 77) rfl (fun w hR h0 => c1 _ _ _ h0) ?_; rintro _ _ ⟨rfl, fp', rfl⟩; refine ⟨.v _, rfl, ?_⟩) | refine ldCell r1 ?_ | refine ldCell r2 ?_ | refine ldCell r4 ?_ | rw [hq] | rw [hsn] | (refine bcase_prop (fun h => ?_) (fun h => ?_) <;> try (exfalso; omega)) | (refine bcase_nprop (fun h => ?_) (fun h => ?_) <;> try (exfalso; omega)) | (refine bcase_intro (fun h => ?_) (fun h => ?_) <;> (try simp only [Bool.not_eq_true', Bool.not_eq_false', decide_eq_true_eq, decide_eq_false_iff_not, Bool.not_eq_true, Bool.not_eq_false, Decidable.not_not] at h)) | refine And.intro (by first | omega | exact rfl | assumption | exact ⟨rfl, rfl, rfl, rfl, rfl⟩ | exact ⟨rfl, rfl, rfl, rfl⟩ | exact ⟨rfl, by omega⟩ | exact oneAll_of rfl | exact ⟨rfl, oneAll_of rfl⟩ | exact Ref.refl _ | exact Thin.ref (.skip (Thin.refl _)) | exact Thin.ref (.skip (.skip (Thin.refl _))) | exact ⟨rfl, hll⟩ | exact ⟨by unfold maxLen; omega, by omega⟩ | exact ⟨rfl, Nat.le_of_ble_eq_true rfl⟩ | ((try unfold maxLen); (try simp only [List.length_nil, List.length_cons, List.length_append]); omega) | (refine ⟨rfl, ?_⟩; (try simp only [List.length_nil, List.length_cons, List.length_append]); omega)) ?_ | intro _)); (all_goals (conv => whnf))
      all_goals first | (exfalso; omega) | skip
      all_goals rename_i a' c'
      all_goals (refine loop_next ⟨acc, _, a', c', fp'⟩ ⟨hok, htx⟩ hmu (by (repeat ((conv => whnf); refine And.intro (by first | exact rfl | exact vint_eq (by omega) | exact vint_eq (by (dsimp only; omega)) | exact vsl_eq (by omega) | exact vsl_eq (by first | (dsimp only; omega) | (simp; done) | (simp; omega))) ?_)); exact trivial) ((refPick 77 rfl).trans (Thin.ref ?_)))
      all_goals (repeat (first | exact Thin.nil _ | exact Thin.refl _ | refine Thin.keep rfl (fun _ h => h) ?_ | refine Thin.own (by first | rfl | (simp; done) | omega) rfl ?_ | refine Thin.box (by first | rfl | (simp; done)) ?_ | refine Thin.skip ?_))
    · rw [if_neg h] at hs'1
      have hsn' := hsn
      subst hs'1
      (repeat' ((conv => whnf); first | rw [hidx] | rw [e1] | rw [r3] | (refine CallK_pack (key := 77) rfl (fun w hR h0 => c1 _ _ _ h0) ?_; rintro _ _ ⟨rfl, fp', rfl⟩; refine ⟨.v _, rfl, ?_⟩) | refine ldCell r1 ?_ | refine ldCell r2 ?_ | refine ldCell r4 ?_ | rw [hq] | rw [hsn] | (refine bcase_prop (fun h => ?_) (fun h => ?_) <;> try (exfalso; omega)) | (refine bcase_nprop (fun h => ?_) (fun h => ?_) <;> try (exfalso; omega)) | (refine bcase_intro (fun h => ?_) (fun h => ?_) <;> (try simp only [Bool.not_eq_true', Bool.not_eq_false', decide_eq_true_eq, decide_eq_false_iff_not, Bool.not_eq_true, Bool.not_eq_false, Decidable.not_not] at h)) | refine And.intro (by first | omega | exact rfl | assumption | exact ⟨rfl, rfl, rfl, rfl, rfl⟩ | exact ⟨rfl, rfl, rfl, rfl⟩ | exact ⟨rfl, by omega⟩ | exact oneAll_of rfl | exact ⟨rfl, oneAll_of rfl⟩ | exact Ref.refl _ | exact Thin.ref (.skip (Thin.refl _)) | exact Thin.ref (.skip (.skip (Thin.refl _))) | exact ⟨rfl, hll⟩ | exact ⟨by unfold maxLen; omega, by omega⟩ | exact ⟨rfl, Nat.le_of_ble_eq_true rfl⟩ | ((try unfold maxLen); (try simp only [List.length_nil, List.length_cons, List.length_append]); omega) | (refine ⟨rfl, ?_⟩; (try simp only [List.length_nil, List.length_cons, List.length_append]); omega)) ?_ | intro _)); (all_goals (conv => whnf))
      all_goals first | (exfalso; omega) | skip
      all_goals rename_i a' c'
      all_goals (refine loop_next ⟨acc, _, a', c', fp'⟩ ⟨hok, htx⟩ hmu (by (repeat ((conv => whnf); refine And.intro (by first | exact rfl | exact vint_eq (by omega) | exact vint_eq (by (dsimp only; omega)) | exact vsl_eq (by omega) | exact vsl_eq (by first | (dsimp only; omega) | (simp; done) | (simp; omega))) ?_)); exact trivial) ((refPick 77 rfl).trans (Thin.ref ?_)))
      all_goals (repeat (first | exact Thin.nil _ | exact Thin.refl _ | refine Thin.keep rfl (fun _ h => h) ?_ | refine Thin.own (by first | rfl | (simp; done) | omega) rfl ?_ | refine Thin.box (by first | rfl | (simp; done)) ?_ | refine Thin.skip ?_))

/-! ### The visitor -/

theorem _root_.Go.EG.Ref.unpackU' {w0 : World} {fp0 : List Nat} {L : List Ent} {key : Nat} {fp : List Nat} {f : Unit → List Ent} : Ref w0 fp0 (packE key fp f :: L) (f () ++ L) := fun w hR => by
  obtain ⟨x, _, h⟩ := hR.unpack
  exact h
/-- What the visitor writes: the boxes of the store's pointer and of the text, and the text. -/
def fX (b b4 bt bk N : Nat) (acc : List Nat) : Unit → List Ent := fun _ => [.box 4 b4 [pS b] ty_P_intern_Store, .box 13 bt [.slice (some ⟨bk, 0, none⟩) acc.length N] ty_Sl_uint8, .own 35 (some ⟨bk, 0, none⟩) acc.length N ty_uint8 1 (byC acc)]
structure VxG where
  i : Nat
  fp : List Nat
theorem visX (b : Nat) (S : Sto) (hw : WF S) (b4 bt bk N : Nat) (hN : N ≤ 65536) : VisOk S b N fn_access_Extract_1 [.pointer (some ⟨bt, 0, none⟩), .pointer (some ⟨b4, 0, none⟩)] (fX b b4 bt bk N) := by
  intro acc x k h1 h2 h3 h4 fp1 fp2 w hR
  replace hR := (Ref.unpackU' w hR : R _ _ ([.box 4 b4 [pS b] ty_P_intern_Store, .box 13 bt [.slice (some ⟨bk, 0, none⟩) acc.length N] ty_Sl_uint8, .own 35 (some ⟨bk, 0, none⟩) acc.length N ty_uint8 1 (byC acc)] ++ _) w)
  refine part_call [.v (.int .i64 x), .v (.int .i64 k), .ptr 13 bt 0, .ptr 4 b4 0] ok_access_Extract_1 (by simp) hR ?_
  generalize hT : (tm S.E x).txt = T at *
  have hpos := hw.pos1 h1 h2
  unfold Tm.len at hpos
  rw [hT] at hpos
  have hA : ∀ j, j ≤ k → (acc ++ rep j T).length ≤ N := fun j hj => by
    rw [List.length_append, rep_length] at h4 ⊢
    have := Nat.mul_le_mul_right T.length hj
    omega
  have h1N := hA 1 h3
  rw [rep_one] at h1N
  have hk : k ≤ 65536 := by
    rw [List.length_append, rep_length] at h4
    have := Nat.mul_le_mul_left k hpos
    omega
  have c1 := fun fp w fps h => calls_spell b S hw x h1 h2 bt bk N hN acc (by rw [hT]; exact h1N) fp fps w h
  rw [hT] at c1
  have e1 : acc ++ T = acc ++ rep 1 T := by rw [rep_one]
  rw [e1] at c1
  have l1 : (acc ++ rep 1 T).length = acc.length + T.length := by rw [List.length_append, rep_length, Nat.one_mul]
  have hA1 := hA 1 h3
  (repeat' ((conv => whnf); first | refine ⟨.sl 35 _ _ _, ⟨rfl, rfl, rfl, rfl⟩, ?_⟩ | refine ⟨.v _, ⟨rfl, trivial⟩, ?_⟩ | rw [Int.toNat_natCast] | (refine CallK_heap (L0 := [packE 77 fp2 (fS b S), .box 13 bt [.slice (some ⟨bk, 0, none⟩) acc.length N] ty_Sl_uint8, .own 35 (some ⟨bk, 0, none⟩) acc.length N ty_uint8 1 (byC acc)]) (Lr := [.box 4 b4 [pS b] ty_P_intern_Store]) ((List.perm_append_comm (l₁ := [_]) (l₂ := [_, _, _])).trans (List.Perm.append_right _ (List.perm_append_comm (l₁ := [_, _]) (l₂ := [_])))) (fun w hR hR0 => c1 _ _ _ hR0) ?_; rintro _ _ ⟨rfl, fp', rfl⟩; refine ⟨.v _, rfl, ?_⟩) | (refine bcase_prop (fun h => ?_) (fun h => ?_) <;> try (exfalso; omega)) | (refine bcase_nprop (fun h => ?_) (fun h => ?_) <;> try (exfalso; omega)) | (refine bcase_intro (fun h => ?_) (fun h => ?_) <;> (try simp only [Bool.not_eq_true', Bool.not_eq_false', decide_eq_true_eq, decide_eq_false_iff_not, Bool.not_eq_true, Bool.not_eq_false, Decidable.not_not] at h)) | refine And.intro (by first | omega | exact rfl | assumption | exact ⟨rfl, rfl, rfl, rfl, rfl⟩ | exact ⟨rfl, rfl, rfl, rfl⟩ | exact ⟨rfl, by omega⟩ | exact oneAll_of rfl | exact ⟨rfl, oneAll_of rfl⟩ | exact Ref.refl _ | exact Thin.ref (.skip (Thin.refl _)) | exact Thin.ref (.skip (.skip (Thin.refl _))) | exact ⟨rfl, Nat.le_of_ble_eq_true rfl⟩ | ((try unfold maxLen); (try simp only [List.length_nil, List.length_cons, List.length_append]); omega) | (refine ⟨rfl, ?_⟩; (try simp only [List.length_nil, List.length_cons, List.length_append]); omega)) ?_ | intro _)); (all_goals (conv => whnf))
  refine VC_loop VxG (fun y => [(1, .v (.int .i64 k)), (2, .ptr 13 bt 0), (9, .v (.slice (offA (some ⟨bk, 0, none⟩) N acc.length 1) ((acc ++ rep 1 T).length - acc.length) (N - acc.length))), (22, .v (.int .i64 ((k : Int) - 1))), (23, .v (.int .i64 y.i))])
    (fun y => [packE 77 y.fp (fS b S), .box 13 bt [.slice (some ⟨bk, 0, none⟩) (acc ++ rep (y.i + 1) T).length N] ty_Sl_uint8, .own 35 (some ⟨bk, 0, none⟩) (acc ++ rep (y.i + 1) T).length N ty_uint8 1 (byC (acc ++ rep (y.i + 1) T)), .box 4 b4 [pS b] ty_P_intern_Store])
    (fun y => y.i + 1 ≤ k) (fun y => k - y.i) ⟨0, fp'⟩ h3 (by (repeat ((conv => whnf); refine And.intro (by first | exact rfl | exact vint_eq (by omega) | exact vint_eq (by (dsimp only; omega)) | exact vsl_eq (by omega) | exact vsl_eq (by first | (dsimp only; omega) | (simp; done) | (simp; omega))) ?_)); exact trivial) (Thin.ref (Thin.refl _)) ?_
  rintro ⟨i, fpx⟩ hi
  dsimp only at hi ⊢
  have l2 : (acc ++ rep (i + 1) T).length + T.length = (acc ++ rep (i + 1 + 1) T).length := by
    rw [List.length_append, List.length_append, rep_length, rep_length, Nat.succ_mul (i + 1)]; omega
  have hd : ((byC (acc ++ rep (i + 1) T)).drop acc.length).take ((acc ++ rep 1 T).length - acc.length) = byC T := by
    rw [l1, Nat.add_sub_cancel_left, ← byC_append, rep_succ, ← byC_append, show acc.length = (byC acc).length by rw [byC_length], List.drop_left, show T.length = (byC T).length by rw [byC_length], List.take_left]
  have happ : byC (acc ++ rep (i + 1) T) ++ byC T = byC (acc ++ rep (i + 1 + 1) T) := by
    rw [byC_append, List.append_assoc, show rep (i + 1) T ++ T = rep (i + 1 + 1) T from by rw [rep_add (i + 1) 1, rep_one]]
  have hml : (acc ++ rep 1 T).length - acc.length = (byC T).length := by rw [l1, byC_length]; omega
  by_cases hlt : i + 1 < k
  · have hA2 := hA (i + 1 + 1) hlt
    (repeat' ((conv => whnf); first | rw [happ] | refine ⟨.sl 35 _ _ _, ⟨rfl, rfl, rfl, rfl⟩, ?_⟩ | refine ⟨byC T, rdsO 35 bk rfl (by omega) hd hml, ?_⟩ | (refine bcase_prop (fun h => ?_) (fun h => ?_) <;> try (exfalso; omega)) | (refine bcase_nprop (fun h => ?_) (fun h => ?_) <;> try (exfalso; omega)) | (refine bcase_intro (fun h => ?_) (fun h => ?_) <;> (try simp only [Bool.not_eq_true', Bool.not_eq_false', decide_eq_true_eq, decide_eq_false_iff_not, Bool.not_eq_true, Bool.not_eq_false, Decidable.not_not] at h)) | refine And.intro (by first | omega | exact rfl | assumption | exact ⟨rfl, rfl, rfl, rfl, rfl⟩ | exact ⟨rfl, rfl, rfl, rfl⟩ | exact ⟨rfl, by omega⟩ | exact oneAll_of rfl | exact ⟨rfl, oneAll_of rfl⟩ | exact Ref.refl _ | exact Thin.ref (.skip (Thin.refl _)) | exact Thin.ref (.skip (.skip (Thin.refl _))) | exact oneAll_by T | exact ⟨rfl, rfl, rfl, rfl, rfl, by omega, by omega⟩ | exact ⟨rfl, Nat.le_of_ble_eq_true rfl⟩ | ((try unfold maxLen); (try simp only [List.length_nil, List.length_cons, List.length_append]); omega) | (refine ⟨rfl, ?_⟩; (try simp only [List.length_nil, List.length_cons, List.length_append]); omega)) ?_ | intro _)); (all_goals (conv => whnf))
    refine loop_next ⟨i + 1, fpx⟩ hlt (by ((try dsimp only); omega)) (by (repeat ((conv => whnf); refine And.intro (by first | exact rfl | exact vint_eq (by omega) | exact vint_eq (by (dsimp only; omega)) | exact vsl_eq (by omega) | exact vsl_eq (by first | (dsimp only; omega) | (simp; done) | (simp; omega))) ?_)); exact trivial) (Thin.ref ?_)
    refine .keep rfl (fun _ h => h) (.box ?_ (.own ?_ rfl (.keep rfl (fun _ h => h) (.nil _))))
    · rw [show (acc ++ rep (i + 1) T).length + ((acc ++ rep 1 T).length - acc.length) = (acc ++ rep (i + 1 + 1) T).length from by omega]
    · show _ = (acc ++ rep (i + 1 + 1) T).length
      omega
  · have hik : i + 1 = k := by omega
    rw [hik]
    (repeat' ((conv => whnf); first | (refine bcase_prop (fun h => ?_) (fun h => ?_) <;> try (exfalso; omega)) | (refine bcase_nprop (fun h => ?_) (fun h => ?_) <;> try (exfalso; omega)) | (refine bcase_intro (fun h => ?_) (fun h => ?_) <;> (try simp only [Bool.not_eq_true', Bool.not_eq_false', decide_eq_true_eq, decide_eq_false_iff_not, Bool.not_eq_true, Bool.not_eq_false, Decidable.not_not] at h)) | refine And.intro (by first | omega | exact rfl | assumption | exact ⟨rfl, rfl, rfl, rfl, rfl⟩ | exact ⟨rfl, rfl, rfl, rfl⟩ | exact ⟨rfl, by omega⟩ | exact oneAll_of rfl | exact ⟨rfl, oneAll_of rfl⟩ | exact Ref.refl _ | exact Thin.ref (.skip (Thin.refl _)) | exact Thin.ref (.skip (.skip (Thin.refl _))) | exact ⟨rfl, Nat.le_of_ble_eq_true rfl⟩ | ((try unfold maxLen); (try simp only [List.length_nil, List.length_cons, List.length_append]); omega) | (refine ⟨rfl, ?_⟩; (try simp only [List.length_nil, List.length_cons, List.length_append]); omega)) ?_ | intro _)); (all_goals (conv => whnf))
    refine ⟨⟨[packE 90 (fps (fX b b4 bt bk N (acc ++ rep k T) ())) (fX b b4 bt bk N (acc ++ rep k T)), packE 77 fpx (fS b S)], ?_, rfl, _, _, rfl⟩⟩
    exact (Ref.perm ((List.perm_append_comm (l₁ := [_, _, _]) (l₂ := [_])).trans (.cons _ (List.perm_append_comm (l₁ := [_]) (l₂ := [_, _]))))).trans (Ref.packs (f := fX b b4 bt bk N (acc ++ rep k T)) () (Thin.refl _))

/-! ### Extract -/

section
attribute [local semireducible] CallK
theorem callPre {P : Program} {w0 : World} {fp0 : List Nat} {L L' : List Ent} {f : FuncId} {args : List Value} {k : SV → List Ent → Prop} (href : Ref w0 fp0 L L') (h : CallK P w0 fp0 f args L' k) : CallK P w0 fp0 f args L k := fun w hR => h w (href w hR)
end

def extQ (key b : Nat) (S : Sto) (T : List Nat) (v : Value) (L1 : List Ent) : Prop :=
  ∃ a c fp', v = .tuple #[.slice a T.length c, .nilIface] ∧ L1 = [packE key fp' (fS b S), .own 806 a T.length c ty_uint8 1 (byC T)]
theorem calls_Extract (b : Nat) (S : Sto) (hw : WF S) (n : Int) (i m : Nat) (hk : known S n) (hi : i + m ≤ (tm S.E n).len) (hm : m ≤ 65536) (key : Nat) (fp : List Nat) (w : World) (hR : StR w key fp b S) :
    Calls Try.prog fn_access_Extract #[pS b, .int .i64 n, .int .i64 i, .int .i64 m] w fun e w' => ∃ v L1, e = .returned v ∧ R w fp L1 w' ∧ extQ key b S (sub (tm S.E n).txt i m) v L1 := by
  refine part_call [.v (pS b), .v (.int .i64 n), .v (.int .i64 i), .v (.int .i64 m)] ok_access_Extract (by simp) (hR.key 77) ?_
  have hsm := hw.small
  have hlen := hw.le hk.2
  have c0 := calls_SWeight b S n hsm
  rw [wtRes_ok hk] at c0
  have c1 := calls_lRange i m (tm S.E n).txt.length hlen
  unfold rangeRes at c1
  unfold Tm.len at hi
  rw [if_pos ⟨by omega, by omega, by omega, by omega⟩] at c1
  have hsl : (sub (tm S.E n).txt i m).length = m := sub_length hi
  have c3 := fun b4 bt bk => calls_parts b S hw n i m hk hi fn_access_Extract_1 [.pointer (some ⟨bt, 0, none⟩), .pointer (some ⟨b4, 0, none⟩)] (fX b b4 bt bk m) m (Nat.le_refl m) rfl (visX b S hw b4 bt bk m hm)
  generalize hT : sub (tm S.E n).txt i m = T at *
  (repeat' ((conv => whnf); first | refine ⟨.v _, ⟨rfl, trivial⟩, ?_⟩ | (refine CallK_pack (key := 77) rfl (fun w hR h0 => c0 _ _ _ h0) ?_; rintro _ _ ⟨rfl, fp', rfl⟩; refine ⟨.v _, rfl, ?_⟩) | (first | refine CallK_pure (.v _) (fun w hR => c1 w) ?_ | refine QCall_pure (.v _) (fun w hR => c1 w) ?_) | (refine bcase_prop (fun h => ?_) (fun h => ?_) <;> try (exfalso; omega)) | (refine bcase_nprop (fun h => ?_) (fun h => ?_) <;> try (exfalso; omega)) | (refine bcase_intro (fun h => ?_) (fun h => ?_) <;> (try simp only [Bool.not_eq_true', Bool.not_eq_false', decide_eq_true_eq, decide_eq_false_iff_not, Bool.not_eq_true, Bool.not_eq_false, Decidable.not_not] at h)) | refine And.intro (by first | omega | exact rfl | assumption | exact ⟨rfl, rfl, rfl, rfl, rfl⟩ | exact ⟨rfl, rfl, rfl, rfl⟩ | exact ⟨rfl, by omega⟩ | exact oneAll_of rfl | exact ⟨rfl, oneAll_of rfl⟩ | exact Ref.refl _ | exact Thin.ref (.skip (Thin.refl _)) | exact Thin.ref (.skip (.skip (Thin.refl _))) | exact ⟨by omega, by omega, by omega, by unfold maxLen; omega⟩ | exact ⟨rfl, Nat.le_of_ble_eq_true rfl⟩ | ((try unfold maxLen); (try simp only [List.length_nil, List.length_cons, List.length_append]); omega) | (refine ⟨rfl, ?_⟩; (try simp only [List.length_nil, List.length_cons, List.length_append]); omega)) ?_ | intro _)); (all_goals (conv => whnf))
  refine callPre ((Thin.ref (.keep rfl (fun _ h => h) (.keep rfl (fun _ h => h) (.skip (.keep rfl (fun _ h => h) (.keep rfl (fun _ h => h) (.nil _)))))) : Ref _ _ _ [.box 13 _ [.slice (some ⟨_, 0, none⟩) 0 m] ty_Sl_uint8, .own 35 (some ⟨_, 0, none⟩) 0 m ty_uint8 1 [], packE 77 fp' (fS b S), .box 4 _ [pS b] ty_P_intern_Store]).trans (Ref.perm (List.perm_append_comm (l₁ := [_, _, _]) (l₂ := [_])))) ?_
  refine callPre (Ref.packs (key := 90) (f := fX b _ _ _ m []) () (Thin.refl _)) ?_
  refine CallK_post ?_
  refine CallK_pack2 (key1 := 90) (key2 := 77) rfl rfl (fun w hR h0 => c3 _ _ _ _ _ _ h0) ?_
  rintro _ _ ⟨rfl, fp1', fp2', rfl⟩
  refine ⟨.v _, rfl, _, Ref.unpackU', ?_⟩
  (repeat' ((conv => whnf); first | refine ⟨.v _, ⟨rfl, trivial⟩, ?_⟩ | (refine bcase_prop (fun h => ?_) (fun h => ?_) <;> try (exfalso; omega)) | (refine bcase_nprop (fun h => ?_) (fun h => ?_) <;> try (exfalso; omega)) | (refine bcase_intro (fun h => ?_) (fun h => ?_) <;> (try simp only [Bool.not_eq_true', Bool.not_eq_false', decide_eq_true_eq, decide_eq_false_iff_not, Bool.not_eq_true, Bool.not_eq_false, Decidable.not_not] at h)) | refine And.intro (by first | omega | exact rfl | assumption | exact ⟨rfl, rfl, rfl, rfl, rfl⟩ | exact ⟨rfl, rfl, rfl, rfl⟩ | exact ⟨rfl, by omega⟩ | exact oneAll_of rfl | exact ⟨rfl, oneAll_of rfl⟩ | exact Ref.refl _ | exact Thin.ref (.skip (Thin.refl _)) | exact Thin.ref (.skip (.skip (Thin.refl _))) | exact ⟨rfl, Nat.le_of_ble_eq_true rfl⟩ | ((try unfold maxLen); (try simp only [List.length_nil, List.length_cons, List.length_append]); omega) | (refine ⟨rfl, ?_⟩; (try simp only [List.length_nil, List.length_cons, List.length_append]); omega)) ?_ | intro _)); (all_goals (conv => whnf))
  exact ⟨⟨_, (refPick 77 rfl).trans (Thin.ref (Thin.packE (.skip (.skip (.own rfl rfl (.nil _)))))), _, m, fp2', rfl, rfl⟩⟩
end Go.Proofs.Ytohlphngnhcbfaa
/- The text of a rule, by the reference. -/
namespace Go.Proofs.Ytohlphngnhcbfaa
open Go.EG
attribute [local irreducible] CallK QCall Go.Calls
set_option linter.unusedSimpArgs false
set_option linter.unusedVariables false
set_option maxRecDepth 20000
set_option maxHeartbeats 4000000

theorem In.take {w0 : World} {fp0 : List Nat} {a : Option Addr} {xs : List Value} (h : In w0 fp0 a xs) (n : Nat) : In w0 fp0 a (xs.take n) := by
  rcases h with rfl | ⟨b, off, rfl, h1, h2, h3⟩
  · exact .inl (by simp)
  · refine .inr ⟨b, off, rfl, h1, h2, fun j v hv => h3 j v ?_⟩
    rw [List.getElem?_take] at hv
    split at hv
    · exact hv
    · cases hv
theorem own_cap {w0 w : World} {fp0 : List Nat} {L : List Ent} {key : Nat} {a : Option Addr} {n c T sz : Nat} {xs : List Value} (hR : R w0 fp0 L w) (h : ownAt key L = some ⟨a, n, c, T, sz, xs⟩) : n ≤ c := by
  have hk := own_row hR h
  rcases hk.2 with ⟨h2, h3⟩ | ⟨g, cap, cur, hv, hg, hh, h3, h4, h5, h6⟩
  · simp only at h3; omega
  · simp only [Value.slice.injEq] at hv
    obtain ⟨_, _, rfl⟩ := hv
    exact h3

theorem WF.tim' {S : Sto} (h : WF S) {n : Int} (h1 : 1 ≤ n) (h2 : n ≤ S.E.length) : (atE S.E n).r.t ≤ 9223372036854775807 := by
  obtain ⟨hr, _, ht, hl, _⟩ := h.at_ h1 h2
  rcases hr with hr | ⟨e1, e2, e3, e4, e5, e6, e7⟩ | ⟨e1, e2, e3, e4, e5, e6⟩
  · omega
  · omega
  · rw [ht] at hl
    unfold mkT at hl
    rw [if_neg (by omega), if_neg (by omega)] at hl
    unfold Tm.len at hl
    rw [Tm.txt, len_rep] at hl
    have hp := h.pos1 e5 (by omega)
    unfold Tm.len at hp
    have : (atE S.E n).r.t.toNat ≤ LM := Nat.le_trans (Nat.le_mul_of_pos_right _ hp) hl
    unfold LM at this
    omega

/-! ### derive -/

theorem derive_ok {E : List Entr} (hw : WF ⟨1000, E⟩) {a : Option Addr} {c : Nat} : ∀ (m : Nat) (n : Int) (k : Nat), n = m → 1 ≤ n → n ≤ k → k ≤ E.length → (tm E n).len ≤ 65536 → ∀ (w : World), In w [] a (ruE E) →
    Calls Try.prog fn_evergreenref12_derive #[.slice a k c, .int .i64 n] w (RetS ty_uint8 1 (tm E n).txt.length (byC (tm E n).txt) w) := by
  intro m
  induction m using Nat.strongRecOn with
  | ind m ih =>
    intro n k hm h1 hnk hk hlen w hin
    have hn2 : n ≤ E.length := by omega
    refine slice_call [.v (.slice a k c), .v (.int .i64 n)] w ok_evergreenref12_derive (by simp) ?_
    have hsm : E.length ≤ 1000 := hw.len
    have hat : ((ruE E).drop ((n - 1).toNat * 5)).take 5 = ruC (atE E n).r := by
      rw [atE_pos (by omega), show n.toNat - 1 = (n - 1).toNat by omega]
      exact ruE_at (by omega)
    have hrd := fun {L : List Ent} => In.rdn (L := L) (vs := ruC (atE E n).r) (k := (n - 1).toNat * 5) hin (Nat.succ_pos _) hat
    have hne : a ≠ none := hin.ne' (k := (n - 1).toNat * 5) (by rw [ruE_length]; omega)
    unfold Tm.len at hlen
    rcases hw.below h1 hn2 with ⟨q1, ht⟩ | ⟨q1, ht, a1, a2, b1, b2⟩ | ⟨q1, ht, a1, a2, t2⟩
    · obtain ⟨l, hl⟩ : ∃ l : Nat, (atE E n).r.l = l := ⟨(atE E n).r.l.toNat, by have := (hw.at_ h1 hn2).2.1; dsimp only at this; omega⟩
      dsimp only at ht q1
      rw [ht, hl, Int.toNat_natCast]
      (repeat' ((conv => whnf); first | rw [hl] | refine ⟨ruC (atE E n).r, rfl, hrd, ?_⟩ | (refine bcase_prop (fun h => ?_) (fun h => ?_) <;> try (exfalso; omega)) | (refine bcase_nprop (fun h => ?_) (fun h => ?_) <;> try (exfalso; omega)) | (refine bcase_intro (fun h => ?_) (fun h => ?_) <;> (try simp only [Bool.not_eq_true', Bool.not_eq_false', decide_eq_true_eq, decide_eq_false_iff_not, Bool.not_eq_true, Bool.not_eq_false, Decidable.not_not] at h)) | refine And.intro (by first | omega | exact rfl | assumption | exact ⟨rfl, rfl, rfl, rfl, rfl⟩ | exact ⟨rfl, rfl, rfl, rfl⟩ | exact ⟨rfl, by omega⟩ | exact oneAll_of rfl | exact ⟨rfl, oneAll_of rfl⟩ | exact Ref.refl _ | exact Thin.ref (.skip (Thin.refl _)) | exact Thin.ref (.skip (.skip (Thin.refl _))) | exact hne | exact ⟨rfl, Nat.le_of_ble_eq_true rfl⟩ | ((try unfold maxLen); (try simp only [List.length_nil, List.length_cons, List.length_append]); omega) | (refine ⟨rfl, ?_⟩; (try simp only [List.length_nil, List.length_cons, List.length_append]); omega)) ?_ | intro _)); (all_goals (conv => whnf))
      all_goals first | (exfalso; omega) | skip
      all_goals exact ⟨_, _, rfl, Thin.ref (.own rfl rfl (.nil _))⟩
    · dsimp only at ht q1 a1 a2 b1 b2
      rw [ht, Tm.txt, List.length_append] at hlen
      have cA := fun w h => ih (atE E n).r.a.toNat (by omega) (atE E n).r.a k (by omega) a1 (by omega) hk (by unfold Tm.len; omega) w h
      have cB := fun w h => ih (atE E n).r.b.toNat (by omega) (atE E n).r.b k (by omega) b1 (by omega) hk (by unfold Tm.len; omega) w h
      rw [ht, Tm.txt]
      have o1 := oneAll_by (tm E (atE E n).r.a).txt
      have o2 := oneAll_by (tm E (atE E n).r.b).txt
      have s1 := byC_append (tm E (atE E n).r.a).txt (tm E (atE E n).r.b).txt
      generalize (tm E (atE E n).r.a).txt = A at *
      generalize (tm E (atE E n).r.b).txt = B at *
      (repeat' ((conv => whnf); first | refine ⟨ruC (atE E n).r, rfl, hrd, ?_⟩ | (refine CallK_slice 600 (fun w' hR => cA w' (hin.cast hR (by simp))) ?_) | (refine CallK_slice 601 (fun w' hR => cB w' (hin.cast hR (by simp))) ?_) | (refine bcase_prop (fun h => ?_) (fun h => ?_) <;> try (exfalso; omega)) | (refine bcase_nprop (fun h => ?_) (fun h => ?_) <;> try (exfalso; omega)) | (refine bcase_intro (fun h => ?_) (fun h => ?_) <;> (try simp only [Bool.not_eq_true', Bool.not_eq_false', decide_eq_true_eq, decide_eq_false_iff_not, Bool.not_eq_true, Bool.not_eq_false, Decidable.not_not] at h)) | refine And.intro (by first | omega | exact rfl | assumption | exact ⟨rfl, rfl, rfl, rfl, rfl⟩ | exact ⟨rfl, rfl, rfl, rfl⟩ | exact ⟨rfl, by omega⟩ | exact oneAll_of rfl | exact ⟨rfl, oneAll_of rfl⟩ | exact Ref.refl _ | exact Thin.ref (.skip (Thin.refl _)) | exact Thin.ref (.skip (.skip (Thin.refl _))) | exact hne | exact o1 | exact o2 | exact ⟨by unfold maxLen; omega, by omega⟩ | exact ⟨rfl, Nat.le_of_ble_eq_true rfl⟩ | ((try unfold maxLen); (try simp only [List.length_nil, List.length_cons, List.length_append]); omega) | (refine ⟨rfl, ?_⟩; (try simp only [List.length_nil, List.length_cons, List.length_append]); omega)) ?_ | intro _)); (all_goals (conv => whnf))
      all_goals first | (exfalso; omega) | skip
      refine ⟨⟨_, _, congrArg (fun n => Value.slice _ n _) (by simp), Thin.ref (.skip (.skip (.own (by simp) ?_ (.nil _))))⟩⟩
      rw [← s1]; rfl
    · dsimp only at ht q1 a1 a2 t2
      obtain ⟨t, htt⟩ : ∃ t : Nat, (atE E n).r.t = t := ⟨(atE E n).r.t.toNat, by omega⟩
      rw [htt, Int.toNat_natCast] at ht
      rw [ht, Tm.txt, rep_length] at hlen
      have hpos := hw.pos1 a1 (by dsimp only; omega)
      dsimp only at hpos
      unfold Tm.len at hpos
      have hle : (tm E (atE E n).r.a).txt.length ≤ t * (tm E (atE E n).r.a).txt.length := Nat.le_mul_of_pos_left _ (by omega)
      have cA := fun w h => ih (atE E n).r.a.toNat (by omega) (atE E n).r.a k (by omega) a1 (by omega) hk (by unfold Tm.len; omega) w h
      rw [ht, Tm.txt]
      have o1 := oneAll_by (tm E (atE E n).r.a).txt
      have htb : t ≤ 65536 := Nat.le_trans (Nat.le_mul_of_pos_right t hpos) hlen
      generalize (tm E (atE E n).r.a).txt = A at *
      (repeat' ((conv => whnf); first | refine ⟨ruC (atE E n).r, rfl, hrd, ?_⟩ | (refine CallK_slice 600 (fun w' hR => cA w' (hin.cast hR (by simp))) ?_) | (refine bcase_prop (fun h => ?_) (fun h => ?_) <;> try (exfalso; omega)) | (refine bcase_nprop (fun h => ?_) (fun h => ?_) <;> try (exfalso; omega)) | (refine bcase_intro (fun h => ?_) (fun h => ?_) <;> (try simp only [Bool.not_eq_true', Bool.not_eq_false', decide_eq_true_eq, decide_eq_false_iff_not, Bool.not_eq_true, Bool.not_eq_false, Decidable.not_not] at h)) | refine And.intro (by first | omega | exact rfl | assumption | exact ⟨rfl, rfl, rfl, rfl, rfl⟩ | exact ⟨rfl, rfl, rfl, rfl⟩ | exact ⟨rfl, by omega⟩ | exact oneAll_of rfl | exact ⟨rfl, oneAll_of rfl⟩ | exact Ref.refl _ | exact Thin.ref (.skip (Thin.refl _)) | exact Thin.ref (.skip (.skip (Thin.refl _))) | exact hne | exact o1 | exact ⟨by unfold maxLen; omega, by omega⟩ | exact ⟨rfl, Nat.le_of_ble_eq_true rfl⟩ | ((try unfold maxLen); (try simp only [List.length_nil, List.length_cons, List.length_append]); omega) | (refine ⟨rfl, ?_⟩; (try simp only [List.length_nil, List.length_cons, List.length_append]); omega)) ?_ | intro _)); (all_goals (conv => whnf))
      all_goals first | (exfalso; omega) | skip
      rename_i b5 _ b20 a6 c6 a20 c20 b35 a35 c35
      refine VC_loop (Nat × Option Addr × Nat) (fun x => [(5, .ptr 5 b5 0), (6, .sl 20 x.2.1 (rep x.1 A).length x.2.2), (7, .sl 35 a35 A.length c35), (8, .v (.int .i64 x.1))])
        (fun x => [.own 35 a35 A.length c35 ty_uint8 1 (byC A), .own 20 x.2.1 (rep x.1 A).length x.2.2 ty_uint8 1 (byC (rep x.1 A)), .box 5 b5 (ruC (atE E n).r) ty_api_Rule])
        (fun x => 1 ≤ x.1 ∧ x.1 ≤ t) (fun x => t - x.1) (1, a20, c20) ⟨Nat.le_refl _, by show 1 ≤ t; omega⟩ ?_ (Thin.ref (.own (by omega) rfl (.skip (.own (by rw [rep_one]; omega) (by rw [rep_one]; rfl) (.keep rfl (fun _ h => h) (.nil _)))))) ?_
      · simp only [rep_one]; (repeat ((conv => whnf); refine And.intro (by first | exact rfl | exact vint_eq (by omega) | exact vint_eq (by (dsimp only; omega)) | exact vsl_eq (by omega) | exact vsl_eq (by first | (dsimp only; omega) | (simp; done) | (simp; omega))) ?_)); exact trivial
      rintro ⟨j, a, c⟩ ⟨j1, j2⟩
      dsimp only at j1 j2 ⊢
      have hrl := rep_length j A
      have hjl : (rep j A).length ≤ t * A.length := by rw [hrl]; exact Nat.mul_le_mul_right _ j2
      have hs : byC (rep j A) ++ byC A = byC (rep (j + 1) A) := by rw [byC_append, rep_add j 1, rep_one]
      have hl2 : (rep j A).length + A.length = (rep (j + 1) A).length := by rw [rep_length, rep_length, Nat.succ_mul]
      by_cases hlt : j < t
      · (repeat' ((conv => whnf); first | rw [htt] | rw [hs] | (refine bcase_prop (fun h => ?_) (fun h => ?_) <;> try (exfalso; omega)) | (refine bcase_nprop (fun h => ?_) (fun h => ?_) <;> try (exfalso; omega)) | (refine bcase_intro (fun h => ?_) (fun h => ?_) <;> (try simp only [Bool.not_eq_true', Bool.not_eq_false', decide_eq_true_eq, decide_eq_false_iff_not, Bool.not_eq_true, Bool.not_eq_false, Decidable.not_not] at h)) | refine And.intro (by first | omega | exact rfl | assumption | exact ⟨rfl, rfl, rfl, rfl, rfl⟩ | exact ⟨rfl, rfl, rfl, rfl⟩ | exact ⟨rfl, by omega⟩ | exact oneAll_of rfl | exact ⟨rfl, oneAll_of rfl⟩ | exact Ref.refl _ | exact Thin.ref (.skip (Thin.refl _)) | exact Thin.ref (.skip (.skip (Thin.refl _))) | exact o1 | exact ⟨by unfold maxLen; omega, by omega⟩ | exact ⟨rfl, Nat.le_of_ble_eq_true rfl⟩ | ((try unfold maxLen); (try simp only [List.length_nil, List.length_cons, List.length_append]); omega) | (refine ⟨rfl, ?_⟩; (try simp only [List.length_nil, List.length_cons, List.length_append]); omega)) ?_ | intro _)); (all_goals (conv => whnf))
        all_goals first | (exfalso; omega) | skip
        rename_i a' c'
        refine loop_next (j + 1, a', c') ⟨by dsimp only; omega, hlt⟩ (by ((try dsimp only); omega)) (by (repeat ((conv => whnf); refine And.intro (by first | exact rfl | exact vint_eq (by omega) | exact vint_eq (by (dsimp only; omega)) | exact vsl_eq (by omega) | exact vsl_eq (by first | (dsimp only; omega) | (simp; done) | (simp; omega))) ?_)); exact trivial) (Thin.ref (.keep rfl (fun _ h => h) (.own hl2 rfl (.keep rfl (fun _ h => h) (.nil _)))))
      · have hjt : j = t := by omega
        subst hjt
        (repeat' ((conv => whnf); first | rw [htt] | (refine bcase_prop (fun h => ?_) (fun h => ?_) <;> try (exfalso; omega)) | (refine bcase_nprop (fun h => ?_) (fun h => ?_) <;> try (exfalso; omega)) | (refine bcase_intro (fun h => ?_) (fun h => ?_) <;> (try simp only [Bool.not_eq_true', Bool.not_eq_false', decide_eq_true_eq, decide_eq_false_iff_not, Bool.not_eq_true, Bool.not_eq_false, Decidable.not_not] at h)) | refine And.intro (by first | omega | exact rfl | assumption | exact ⟨rfl, rfl, rfl, rfl, rfl⟩ | exact ⟨rfl, rfl, rfl, rfl⟩ | exact ⟨rfl, by omega⟩ | exact oneAll_of rfl | exact ⟨rfl, oneAll_of rfl⟩ | exact Ref.refl _ | exact Thin.ref (.skip (Thin.refl _)) | exact Thin.ref (.skip (.skip (Thin.refl _))) | exact ⟨rfl, Nat.le_of_ble_eq_true rfl⟩ | ((try unfold maxLen); (try simp only [List.length_nil, List.length_cons, List.length_append]); omega) | (refine ⟨rfl, ?_⟩; (try simp only [List.length_nil, List.length_cons, List.length_append]); omega)) ?_ | intro _)); (all_goals (conv => whnf))
        all_goals first | (exfalso; omega) | skip
        exact ⟨⟨_, _, rfl, Thin.ref (.skip (.own rfl rfl (.nil _)))⟩⟩

/-! ### Refs, Expand, Text -/

def rfsL (r : Rul) : List Int := if r.k = 2 then [r.a, r.b] else if r.k = 3 then [r.a] else []
theorem calls_r12Refs (r : Rul) (w : World) : Calls Try.prog fn_evergreenref12_Refs #[ruV r] w (RetS ty_api_ID 1 (rfsL r).length (ints .i64 (rfsL r)) w) := by
  refine slice_call [.v (ruV r)] w ok_evergreenref12_Refs (by simp) ?_
  unfold rfsL
  by_cases h2 : r.k = 2
  · rw [if_pos h2]
    (repeat' ((conv => whnf); first | (refine bcase_prop (fun h => ?_) (fun h => ?_) <;> try (exfalso; omega)) | (refine bcase_nprop (fun h => ?_) (fun h => ?_) <;> try (exfalso; omega)) | (refine bcase_intro (fun h => ?_) (fun h => ?_) <;> (try simp only [Bool.not_eq_true', Bool.not_eq_false', decide_eq_true_eq, decide_eq_false_iff_not, Bool.not_eq_true, Bool.not_eq_false, Decidable.not_not] at h)) | refine And.intro (by first | omega | exact rfl | assumption | exact ⟨rfl, rfl, rfl, rfl, rfl⟩ | exact ⟨rfl, rfl, rfl, rfl⟩ | exact ⟨rfl, by omega⟩ | exact oneAll_of rfl | exact ⟨rfl, oneAll_of rfl⟩ | exact Ref.refl _ | exact Thin.ref (.skip (Thin.refl _)) | exact Thin.ref (.skip (.skip (Thin.refl _))) | exact ⟨rfl, Nat.le_of_ble_eq_true rfl⟩ | ((try unfold maxLen); (try simp only [List.length_nil, List.length_cons, List.length_append]); omega) | (refine ⟨rfl, ?_⟩; (try simp only [List.length_nil, List.length_cons, List.length_append]); omega)) ?_ | intro _)); (all_goals (conv => whnf))
    exact ⟨⟨_, _, rfl, Thin.ref (.own rfl rfl (.nil _))⟩⟩
  · rw [if_neg h2]
    by_cases h3 : r.k = 3
    · rw [if_pos h3]
      (repeat' ((conv => whnf); first | (refine bcase_prop (fun h => ?_) (fun h => ?_) <;> try (exfalso; omega)) | (refine bcase_nprop (fun h => ?_) (fun h => ?_) <;> try (exfalso; omega)) | (refine bcase_intro (fun h => ?_) (fun h => ?_) <;> (try simp only [Bool.not_eq_true', Bool.not_eq_false', decide_eq_true_eq, decide_eq_false_iff_not, Bool.not_eq_true, Bool.not_eq_false, Decidable.not_not] at h)) | refine And.intro (by first | omega | exact rfl | assumption | exact ⟨rfl, rfl, rfl, rfl, rfl⟩ | exact ⟨rfl, rfl, rfl, rfl⟩ | exact ⟨rfl, by omega⟩ | exact oneAll_of rfl | exact ⟨rfl, oneAll_of rfl⟩ | exact Ref.refl _ | exact Thin.ref (.skip (Thin.refl _)) | exact Thin.ref (.skip (.skip (Thin.refl _))) | exact ⟨rfl, Nat.le_of_ble_eq_true rfl⟩ | ((try unfold maxLen); (try simp only [List.length_nil, List.length_cons, List.length_append]); omega) | (refine ⟨rfl, ?_⟩; (try simp only [List.length_nil, List.length_cons, List.length_append]); omega)) ?_ | intro _)); (all_goals (conv => whnf))
      exact ⟨⟨_, _, rfl, Thin.ref (.own rfl rfl (.nil _))⟩⟩
    · rw [if_neg h3]
      (repeat' ((conv => whnf); first | (refine bcase_prop (fun h => ?_) (fun h => ?_) <;> try (exfalso; omega)) | (refine bcase_nprop (fun h => ?_) (fun h => ?_) <;> try (exfalso; omega)) | (refine bcase_intro (fun h => ?_) (fun h => ?_) <;> (try simp only [Bool.not_eq_true', Bool.not_eq_false', decide_eq_true_eq, decide_eq_false_iff_not, Bool.not_eq_true, Bool.not_eq_false, Decidable.not_not] at h)) | refine And.intro (by first | omega | exact rfl | assumption | exact ⟨rfl, rfl, rfl, rfl, rfl⟩ | exact ⟨rfl, rfl, rfl, rfl⟩ | exact ⟨rfl, by omega⟩ | exact oneAll_of rfl | exact ⟨rfl, oneAll_of rfl⟩ | exact Ref.refl _ | exact Thin.ref (.skip (Thin.refl _)) | exact Thin.ref (.skip (.skip (Thin.refl _))) | exact ⟨rfl, Nat.le_of_ble_eq_true rfl⟩ | ((try unfold maxLen); (try simp only [List.length_nil, List.length_cons, List.length_append]); omega) | (refine ⟨rfl, ?_⟩; (try simp only [List.length_nil, List.length_cons, List.length_append]); omega)) ?_ | intro _)); (all_goals (conv => whnf))
      exact ⟨⟨none, 0, rfl, (Ref.ownNil 0 _ 1).trans (Thin.ref (.own rfl rfl (.nil _)))⟩⟩

/-- A length, cut off. -/
def cl (E : List Entr) (most : Nat) (n : Nat) : Int := ((min (tm E n).len (most + 1) : Nat) : Int)
def clL (E : List Entr) (most k i : Nat) : List Int := (List.range (k + 1)).map fun j => if j ≤ i then cl E most j else 0
theorem clL_length (E : List Entr) (most k i : Nat) : (clL E most k i).length = k + 1 := by simp [clL]
theorem clL_at {E : List Entr} {most k i j : Nat} (h : j ≤ k) (h2 : j ≤ i) : (ints .i64 (clL E most k i))[j]? = some (.int .i64 (cl E most j)) := by
  simp [ints, clL, show j < k + 1 by omega, h2]
theorem clL_set {E : List Entr} {most k i : Nat} (h : i + 1 ≤ k) : splice (ints .i64 (clL E most k i)) (i + 1) [.int .i64 (cl E most (i + 1))] = ints .i64 (clL E most k (i + 1)) := by
  rw [splice_ints (by rw [clL_length]; omega)]
  congr 1
  apply List.ext_getElem
  · simp [clL]
  · intro j h1 h2
    rw [List.getElem_set]
    simp only [clL, List.getElem_map, List.getElem_range]
    by_cases hj : i + 1 = j
    · rw [if_pos hj, if_pos (by omega), hj]
    · rw [if_neg hj]
      by_cases hj2 : j ≤ i
      · rw [if_pos hj2, if_pos (by omega)]
      · rw [if_neg hj2, if_neg (by omega)]
theorem clL_zero {E : List Entr} {most k : Nat} : (List.replicate (k + 1) [Value.int .i64 0]).flatten = ints .i64 (clL E most k 0) := by
  rw [flat_zeros]
  congr 1
  apply List.ext_getElem
  · simp [clL]
  · intro j h1 h2
    simp only [clL, List.getElem_map, List.getElem_range, List.getElem_replicate]
    split
    · rename_i h
      have : j = 0 := by omega
      subst this
      simp [cl, tm_zero, Tm.len, Tm.txt]
    · rfl

def expQ (most : Nat) (T : List Nat) (v : Value) (L1 : List Ent) : Prop :=
  (T.length ≤ most ∧ ∃ a c, v = .tuple #[.slice a T.length c, .bool true] ∧ L1 = [.own 807 a T.length c ty_uint8 1 (byC T)]) ∨
  (most < T.length ∧ v = .tuple #[.slice none 0 0, .bool false] ∧ L1 = [])
theorem calls_Expand {E : List Entr} (hw : WF ⟨1000, E⟩) {a : Option Addr} {c : Nat} (k most : Nat) (hk : 1 ≤ k) (hkE : k ≤ E.length) (hm : most ≤ 65536) (w : World) (hin : In w [] a (ruE E)) :
    Calls Try.prog fn_evergreenref12_Expand #[.slice a k c, .int .i64 most] w fun e w' => ∃ v L1, e = .returned v ∧ R w [] L1 w' ∧ expQ most (tm E k).txt v L1 := by
  refine new_call [.v (.slice a k c), .v (.int .i64 most)] ok_evergreenref12_Expand (by simp) ?_
  have hsm : E.length ≤ 1000 := hw.len
  have hne : ∀ i, i < E.length → a ≠ none := fun i hi => hin.ne' (k := i * 5) (by rw [ruE_length]; omega)
  have hrd := fun {L : List Ent} (i : Nat) (hi : i < E.length) => In.rdn (L := L) (vs := ruC (E.getD i ent0).r) (k := i * 5) hin (Nat.succ_pos _) (ruE_at hi)
  have hk1 : ((k : Int) + 1).toNat = k + 1 := by omega
  have hz := clL_zero (E := E) (most := most) (k := k)
  (repeat' ((conv => whnf); first | rw [hk1] | rw [hz] | (refine bcase_prop (fun h => ?_) (fun h => ?_) <;> try (exfalso; omega)) | (refine bcase_nprop (fun h => ?_) (fun h => ?_) <;> try (exfalso; omega)) | (refine bcase_intro (fun h => ?_) (fun h => ?_) <;> (try simp only [Bool.not_eq_true', Bool.not_eq_false', decide_eq_true_eq, decide_eq_false_iff_not, Bool.not_eq_true, Bool.not_eq_false, Decidable.not_not] at h)) | refine And.intro (by first | omega | exact rfl | assumption | exact ⟨rfl, rfl, rfl, rfl, rfl⟩ | exact ⟨rfl, rfl, rfl, rfl⟩ | exact ⟨rfl, by omega⟩ | exact oneAll_of rfl | exact ⟨rfl, oneAll_of rfl⟩ | exact Ref.refl _ | exact Thin.ref (.skip (Thin.refl _)) | exact Thin.ref (.skip (.skip (Thin.refl _))) | exact ⟨by omega, by omega, by omega, by unfold maxLen; omega⟩ | exact ⟨rfl, Nat.le_of_ble_eq_true rfl⟩ | ((try unfold maxLen); (try simp only [List.length_nil, List.length_cons, List.length_append]); omega) | (refine ⟨rfl, ?_⟩; (try simp only [List.length_nil, List.length_cons, List.length_append]); omega)) ?_ | intro _)); (all_goals (conv => whnf))
  all_goals first | (exfalso; omega) | skip
  rename_i b18
  refine VC_loop Nat (fun i => [(0, .v (.slice a k c)), (1, .v (.int .i64 most)), (6, .sl 18 (some ⟨b18, 0, none⟩) (k + 1) (k + 1)), (7, .v (.int .i64 i))]) (fun i => [.own 18 (some ⟨b18, 0, none⟩) (k + 1) (k + 1) ty_int 1 (ints .i64 (clL E most k i))])
    (fun i => i ≤ k) (fun i => k - i) 0 (Nat.zero_le _) (by (repeat ((conv => whnf); refine And.intro (by first | exact rfl | exact vint_eq (by omega) | exact vint_eq (by (dsimp only; omega)) | exact vsl_eq (by omega) | exact vsl_eq (by first | (dsimp only; omega) | (simp; done) | (simp; omega))) ?_)); exact trivial) (Thin.ref (Thin.refl _)) ?_
  intro i hi
  by_cases hlt : i < k
  case neg =>
    have hik : i = k := by omega
    subst hik
    have hat := clL_at (E := E) (most := most) (k := i) (i := i) (j := i) (Nat.le_refl _) (Nat.le_refl _)
    unfold cl at hat
    unfold Tm.len at hat
    by_cases hs : (tm E i).txt.length ≤ most
    · have hlen : (tm E i).len ≤ 65536 := by unfold Tm.len; omega
      have cD := fun w h => derive_ok hw (a := a) (c := c) i i i rfl (by omega) (by omega) hkE hlen w h
      rw [show min (tm E i).txt.length (most + 1) = (tm E i).txt.length by omega] at hat
      generalize (tm E i).txt = T at *
      (repeat' ((conv => whnf); first | rw [Int.toNat_natCast] | rw [Nat.mul_one] | refine ldCell hat ?_ | (refine CallK_slice 807 (fun w' hR => cD w' (hin.cast hR (by simp))) ?_) | (refine bcase_prop (fun h => ?_) (fun h => ?_) <;> try (exfalso; omega)) | (refine bcase_nprop (fun h => ?_) (fun h => ?_) <;> try (exfalso; omega)) | (refine bcase_intro (fun h => ?_) (fun h => ?_) <;> (try simp only [Bool.not_eq_true', Bool.not_eq_false', decide_eq_true_eq, decide_eq_false_iff_not, Bool.not_eq_true, Bool.not_eq_false, Decidable.not_not] at h)) | refine And.intro (by first | omega | exact rfl | assumption | exact ⟨rfl, rfl, rfl, rfl, rfl⟩ | exact ⟨rfl, rfl, rfl, rfl⟩ | exact ⟨rfl, by omega⟩ | exact oneAll_of rfl | exact ⟨rfl, oneAll_of rfl⟩ | exact Ref.refl _ | exact Thin.ref (.skip (Thin.refl _)) | exact Thin.ref (.skip (.skip (Thin.refl _))) | exact ⟨rfl, Nat.le_of_ble_eq_true rfl⟩ | ((try unfold maxLen); (try simp only [List.length_nil, List.length_cons, List.length_append]); omega) | (refine ⟨rfl, ?_⟩; (try simp only [List.length_nil, List.length_cons, List.length_append]); omega)) ?_ | intro _)); (all_goals (conv => whnf))
      all_goals first | (exfalso; omega) | skip
      exact ⟨⟨_, Thin.ref (.own rfl rfl (.nil _)), .inl ⟨hs, _, _, rfl, rfl⟩⟩⟩
    · rw [show min (tm E i).txt.length (most + 1) = most + 1 by omega] at hat
      generalize (tm E i).txt = T at *
      (repeat' ((conv => whnf); first | rw [Int.toNat_natCast] | rw [Nat.mul_one] | refine ldCell hat ?_ | (refine bcase_prop (fun h => ?_) (fun h => ?_) <;> try (exfalso; omega)) | (refine bcase_nprop (fun h => ?_) (fun h => ?_) <;> try (exfalso; omega)) | (refine bcase_intro (fun h => ?_) (fun h => ?_) <;> (try simp only [Bool.not_eq_true', Bool.not_eq_false', decide_eq_true_eq, decide_eq_false_iff_not, Bool.not_eq_true, Bool.not_eq_false, Decidable.not_not] at h)) | refine And.intro (by first | omega | exact rfl | assumption | exact ⟨rfl, rfl, rfl, rfl, rfl⟩ | exact ⟨rfl, rfl, rfl, rfl⟩ | exact ⟨rfl, by omega⟩ | exact oneAll_of rfl | exact ⟨rfl, oneAll_of rfl⟩ | exact Ref.refl _ | exact Thin.ref (.skip (Thin.refl _)) | exact Thin.ref (.skip (.skip (Thin.refl _))) | exact ⟨rfl, Nat.le_of_ble_eq_true rfl⟩ | ((try unfold maxLen); (try simp only [List.length_nil, List.length_cons, List.length_append]); omega) | (refine ⟨rfl, ?_⟩; (try simp only [List.length_nil, List.length_cons, List.length_append]); omega)) ?_ | intro _)); (all_goals (conv => whnf))
      all_goals first | (exfalso; omega) | skip
      exact ⟨⟨[], Thin.ref (.nil _), .inr ⟨by omega, rfl, rfl⟩⟩⟩
  have hr := fun {L : List Ent} => hrd (L := L) i (by omega)
  have hn0 := hne i (by omega)
  have hatE : atE E ((i : Int) + 1) = E.getD i ent0 := atE_succ E i
  have c1 := calls_r12Refs (E.getD i ent0).r
  have h1 : (1 : Int) ≤ (i : Int) + 1 := by omega
  have h2 : (i : Int) + 1 ≤ (⟨1000, E⟩ : Sto).E.length := by dsimp only; omega
  have hb := hw.below h1 h2
  dsimp only at hb
  rw [hatE] at hb
  have hrefs : ∀ j, j < (rfsL (E.getD i ent0).r).length → 1 ≤ (rfsL (E.getD i ent0).r).getD j 0 ∧ (rfsL (E.getD i ent0).r).getD j 0 ≤ i := by
    intro j hj
    unfold rfsL at hj ⊢
    rcases hb with ⟨q1, ht⟩ | ⟨q1, ht, a1, a2, b1, b2⟩ | ⟨q1, ht, a1, a2, t2⟩
    · rw [if_neg (by omega), if_neg (by omega)] at hj; simp at hj
    · rw [if_pos q1] at hj ⊢
      simp only [List.length_cons, List.length_nil] at hj
      rcases (by omega : j = 0 ∨ j = 1) with rfl | rfl
      · simp only [List.getD_cons_zero]; omega
      · simp only [List.getD_cons_succ, List.getD_cons_zero]; omega
    · rw [if_neg (by omega), if_pos q1] at hj ⊢
      simp only [List.length_cons, List.length_nil] at hj
      have : j = 0 := by omega
      subst this
      simp only [List.getD_cons_zero]; omega
  (repeat' ((conv => whnf); first | rw [Int.toNat_natCast] | refine ⟨ruC (E.getD i ent0).r, rfl, hr, ?_⟩ | (refine CallK_slice 700 (fun w' hR => c1 w') ?_) | (refine bcase_prop (fun h => ?_) (fun h => ?_) <;> try (exfalso; omega)) | (refine bcase_nprop (fun h => ?_) (fun h => ?_) <;> try (exfalso; omega)) | (refine bcase_intro (fun h => ?_) (fun h => ?_) <;> (try simp only [Bool.not_eq_true', Bool.not_eq_false', decide_eq_true_eq, decide_eq_false_iff_not, Bool.not_eq_true, Bool.not_eq_false, Decidable.not_not] at h)) | refine And.intro (by first | omega | exact rfl | assumption | exact ⟨rfl, rfl, rfl, rfl, rfl⟩ | exact ⟨rfl, rfl, rfl, rfl⟩ | exact ⟨rfl, by omega⟩ | exact oneAll_of rfl | exact ⟨rfl, oneAll_of rfl⟩ | exact Ref.refl _ | exact Thin.ref (.skip (Thin.refl _)) | exact Thin.ref (.skip (.skip (Thin.refl _))) | exact hn0 | exact ⟨rfl, Nat.le_of_ble_eq_true rfl⟩ | ((try unfold maxLen); (try simp only [List.length_nil, List.length_cons, List.length_append]); omega) | (refine ⟨rfl, ?_⟩; (try simp only [List.length_nil, List.length_cons, List.length_append]); omega)) ?_ | intro _)); (all_goals (conv => whnf))
  all_goals first | (exfalso; omega) | skip
  rename_i b8 a7 c7
  refine VC_loop Nat (fun j => [(0, .v (.slice a k c)), (1, .v (.int .i64 most)), (6, .sl 18 (some ⟨b18, 0, none⟩) (k + 1) (k + 1)), (7, .v (.int .i64 i)), (8, .ptr 8 b8 0), (9, .sl 700 a7 (rfsL (E.getD i ent0).r).length c7), (10, .v (.int .i64 j))])
    (fun j => [.own 700 a7 (rfsL (E.getD i ent0).r).length c7 ty_api_ID 1 (ints .i64 (rfsL (E.getD i ent0).r)), .box 8 b8 (ruC (E.getD i ent0).r) ty_api_Rule, .own 18 (some ⟨b18, 0, none⟩) (k + 1) (k + 1) ty_int 1 (ints .i64 (clL E most k i))])
    (fun j => j ≤ (rfsL (E.getD i ent0).r).length) (fun j => (rfsL (E.getD i ent0).r).length - j) 0 (Nat.zero_le _) (by (repeat ((conv => whnf); refine And.intro (by first | exact rfl | exact vint_eq (by omega) | exact vint_eq (by (dsimp only; omega)) | exact vsl_eq (by omega) | exact vsl_eq (by first | (dsimp only; omega) | (simp; done) | (simp; omega))) ?_)); exact trivial) (Thin.ref (Thin.refl _)) ?_
  intro j hj
  have hrl : (rfsL (E.getD i ent0).r).length ≤ 2 := by
    unfold rfsL
    split
    · simp
    · split <;> simp
  by_cases hjl : j < (rfsL (E.getD i ent0).r).length
  · have hx := hrefs j hjl
    have hat : (ints .i64 (rfsL (E.getD i ent0).r))[j]? = some (.int .i64 ((rfsL (E.getD i ent0).r).getD j 0)) := ints_getD hjl
    (repeat' ((conv => whnf); first | rw [Int.toNat_natCast] | rw [Nat.mul_one] | refine ldCell hat ?_ | (refine bcase_prop (fun h => ?_) (fun h => ?_) <;> try (exfalso; omega)) | (refine bcase_nprop (fun h => ?_) (fun h => ?_) <;> try (exfalso; omega)) | (refine bcase_intro (fun h => ?_) (fun h => ?_) <;> (try simp only [Bool.not_eq_true', Bool.not_eq_false', decide_eq_true_eq, decide_eq_false_iff_not, Bool.not_eq_true, Bool.not_eq_false, Decidable.not_not] at h)) | refine And.intro (by first | omega | exact rfl | assumption | exact ⟨rfl, rfl, rfl, rfl, rfl⟩ | exact ⟨rfl, rfl, rfl, rfl⟩ | exact ⟨rfl, by omega⟩ | exact oneAll_of rfl | exact ⟨rfl, oneAll_of rfl⟩ | exact Ref.refl _ | exact Thin.ref (.skip (Thin.refl _)) | exact Thin.ref (.skip (.skip (Thin.refl _))) | exact ⟨rfl, Nat.le_of_ble_eq_true rfl⟩ | ((try unfold maxLen); (try simp only [List.length_nil, List.length_cons, List.length_append]); omega) | (refine ⟨rfl, ?_⟩; (try simp only [List.length_nil, List.length_cons, List.length_append]); omega)) ?_ | intro _)); (all_goals (conv => whnf))
    all_goals first | (exfalso; omega) | skip
    exact loop_next (j + 1) hjl (by ((try dsimp only); omega)) (by (repeat ((conv => whnf); refine And.intro (by first | exact rfl | exact vint_eq (by omega) | exact vint_eq (by (dsimp only; omega)) | exact vsl_eq (by omega) | exact vsl_eq (by first | (dsimp only; omega) | (simp; done) | (simp; omega))) ?_)); exact trivial) (Thin.ref (Thin.refl _))
  · have e1 : ((i : Int) + 1).toNat = i + 1 := by omega
    have hll : i + 1 + 1 ≤ (ints .i64 (clL E most k i)).length := by rw [ints_length, clL_length]; omega
    have hset := clL_set (E := E) (most := most) (k := k) (i := i) hlt
    have hz1 : ((i + 1 : Nat) : Int) = (i : Int) + 1 := by omega
    have hzz : cl E most (i + 1) = ((min (tm E ((i : Int) + 1)).len (most + 1) : Nat) : Int) := by unfold cl; rw [hz1]
    rcases hb with ⟨q1, ht⟩ | ⟨q1, ht, a1, a2, b1, b2⟩ | ⟨q1, ht, a1, a2, t2⟩
    · have hz : (tm E ((i : Int) + 1)).len = 1 := by rw [ht]; rfl
      rw [hz] at hzz
      have x1 : 1 ≤ most → splice (ints .i64 (clL E most k i)) (i + 1) [.int .i64 1] = ints .i64 (clL E most k (i + 1)) := fun h => by
        rw [← hset, hzz, show min 1 (most + 1) = 1 by omega]; rfl
      have x2 : ¬ 1 ≤ most → splice (ints .i64 (clL E most k i)) (i + 1) [.int .i64 ((most : Int) + 1)] = ints .i64 (clL E most k (i + 1)) := fun h => by
        rw [← hset, hzz, show min 1 (most + 1) = most + 1 by omega]; rfl
      generalize (E.getD i ent0).r = r at *
      (repeat' ((conv => whnf); first | rw [e1] | rw [x1 (by omega)] | rw [x2 (by omega)] | rw [Int.toNat_natCast] | rw [Nat.mul_one] | (refine bcase_prop (fun h => ?_) (fun h => ?_) <;> try (exfalso; omega)) | (refine bcase_nprop (fun h => ?_) (fun h => ?_) <;> try (exfalso; omega)) | (refine bcase_intro (fun h => ?_) (fun h => ?_) <;> (try simp only [Bool.not_eq_true', Bool.not_eq_false', decide_eq_true_eq, decide_eq_false_iff_not, Bool.not_eq_true, Bool.not_eq_false, Decidable.not_not] at h)) | refine And.intro (by first | omega | exact rfl | assumption | exact ⟨rfl, rfl, rfl, rfl, rfl⟩ | exact ⟨rfl, rfl, rfl, rfl⟩ | exact ⟨rfl, by omega⟩ | exact oneAll_of rfl | exact ⟨rfl, oneAll_of rfl⟩ | exact Ref.refl _ | exact Thin.ref (.skip (Thin.refl _)) | exact Thin.ref (.skip (.skip (Thin.refl _))) | exact ⟨rfl, hll⟩ | exact ⟨rfl, Nat.le_of_ble_eq_true rfl⟩ | ((try unfold maxLen); (try simp only [List.length_nil, List.length_cons, List.length_append]); omega) | (refine ⟨rfl, ?_⟩; (try simp only [List.length_nil, List.length_cons, List.length_append]); omega)) ?_ | intro _)); (all_goals (conv => whnf))
      all_goals first | (exfalso; omega) | skip
      all_goals (refine loop_next (i + 1) hlt (by ((try dsimp only); omega)) (by (repeat ((conv => whnf); refine And.intro (by first | exact rfl | exact vint_eq (by omega) | exact vint_eq (by (dsimp only; omega)) | exact vsl_eq (by omega) | exact vsl_eq (by first | (dsimp only; omega) | (simp; done) | (simp; omega))) ?_)); exact trivial) (Thin.ref (.skip (.skip (.keep rfl (fun _ h => h) (.nil _))))))
    · obtain ⟨na, hna⟩ : ∃ na : Nat, (E.getD i ent0).r.a = na := ⟨(E.getD i ent0).r.a.toNat, by omega⟩
      obtain ⟨nb, hnb⟩ : ∃ nb : Nat, (E.getD i ent0).r.b = nb := ⟨(E.getD i ent0).r.b.toNat, by omega⟩
      have hz : (tm E ((i : Int) + 1)).len = (tm E na).len + (tm E nb).len := by rw [ht, hna, hnb, Tm.len_pr]
      rw [hz] at hzz
      have la := clL_at (E := E) (most := most) (k := k) (i := i) (j := na) (by omega) (by omega)
      have lb := clL_at (E := E) (most := most) (k := k) (i := i) (j := nb) (by omega) (by omega)
      have xa : cl E most na = ((min (tm E na).len (most + 1) : Nat) : Int) := rfl
      have xb : cl E most nb = ((min (tm E nb).len (most + 1) : Nat) : Int) := rfl
      generalize cl E most na = x at *
      generalize cl E most nb = y at *
      generalize (tm E na).len = ln at *
      generalize (tm E nb).len = lm at *
      have x1 : x + y ≤ most → splice (ints .i64 (clL E most k i)) (i + 1) [.int .i64 (x + y)] = ints .i64 (clL E most k (i + 1)) := fun h => by
        rw [← hset, hzz, show ((min (ln + lm) (most + 1) : Nat) : Int) = x + y by omega]
      have x2 : ¬ x + y ≤ most → splice (ints .i64 (clL E most k i)) (i + 1) [.int .i64 ((most : Int) + 1)] = ints .i64 (clL E most k (i + 1)) := fun h => by
        rw [← hset, hzz, show ((min (ln + lm) (most + 1) : Nat) : Int) = (most : Int) + 1 by omega]
      generalize (E.getD i ent0).r = r at *
      (repeat' ((conv => whnf); first | rw [e1] | rw [hna] | rw [hnb] | rw [x1 (by omega)] | rw [x2 (by omega)] | rw [Int.toNat_natCast] | rw [Nat.mul_one] | refine ldCell la ?_ | refine ldCell lb ?_ | (refine bcase_prop (fun h => ?_) (fun h => ?_) <;> try (exfalso; omega)) | (refine bcase_nprop (fun h => ?_) (fun h => ?_) <;> try (exfalso; omega)) | (refine bcase_intro (fun h => ?_) (fun h => ?_) <;> (try simp only [Bool.not_eq_true', Bool.not_eq_false', decide_eq_true_eq, decide_eq_false_iff_not, Bool.not_eq_true, Bool.not_eq_false, Decidable.not_not] at h)) | refine And.intro (by first | omega | exact rfl | assumption | exact ⟨rfl, rfl, rfl, rfl, rfl⟩ | exact ⟨rfl, rfl, rfl, rfl⟩ | exact ⟨rfl, by omega⟩ | exact oneAll_of rfl | exact ⟨rfl, oneAll_of rfl⟩ | exact Ref.refl _ | exact Thin.ref (.skip (Thin.refl _)) | exact Thin.ref (.skip (.skip (Thin.refl _))) | exact ⟨rfl, hll⟩ | exact ⟨rfl, Nat.le_of_ble_eq_true rfl⟩ | ((try unfold maxLen); (try simp only [List.length_nil, List.length_cons, List.length_append]); omega) | (refine ⟨rfl, ?_⟩; (try simp only [List.length_nil, List.length_cons, List.length_append]); omega)) ?_ | intro _)); (all_goals (conv => whnf))
      all_goals first | (exfalso; omega) | skip
      all_goals (refine loop_next (i + 1) hlt (by ((try dsimp only); omega)) (by (repeat ((conv => whnf); refine And.intro (by first | exact rfl | exact vint_eq (by omega) | exact vint_eq (by (dsimp only; omega)) | exact vsl_eq (by omega) | exact vsl_eq (by first | (dsimp only; omega) | (simp; done) | (simp; omega))) ?_)); exact trivial) (Thin.ref (.skip (.skip (.keep rfl (fun _ h => h) (.nil _))))))
    · obtain ⟨na, hna⟩ : ∃ na : Nat, (E.getD i ent0).r.a = na := ⟨(E.getD i ent0).r.a.toNat, by omega⟩
      obtain ⟨q, hq⟩ : ∃ q : Nat, (E.getD i ent0).r.t = q := ⟨(E.getD i ent0).r.t.toNat, by omega⟩
      have hz : (tm E ((i : Int) + 1)).len = q * (tm E na).len := by rw [ht, hna, hq, Tm.len_pw, Int.toNat_natCast]
      rw [hz] at hzz
      have la := clL_at (E := E) (most := most) (k := k) (i := i) (j := na) (by omega) (by omega)
      have xa : cl E most na = ((min (tm E na).len (most + 1) : Nat) : Int) := rfl
      rw [xa] at la
      have hdiv : (most : Int) / (q : Int) = ((most / q : Nat) : Int) := by rw [Int.natCast_ediv]
      have hiff : min (tm E na).len (most + 1) ≤ most / q ↔ min (tm E na).len (most + 1) * q ≤ most := Nat.le_div_iff_mul_le (by omega)
      have hmul : ((min (tm E na).len (most + 1) : Nat) : Int) * (q : Int) = ((min (tm E na).len (most + 1) * q : Nat) : Int) := by simp
      have hp1 : min (tm E na).len (most + 1) * q ≤ most → min (q * (tm E na).len) (most + 1) = min (tm E na).len (most + 1) * q := fun h => by
        have h1 : min (tm E na).len (most + 1) * 1 ≤ min (tm E na).len (most + 1) * q := Nat.mul_le_mul_left _ (by omega)
        have h2 : min (tm E na).len (most + 1) = (tm E na).len := by omega
        rw [h2] at h ⊢
        rw [Nat.mul_comm q]; omega
      have hp2 : ¬ min (tm E na).len (most + 1) * q ≤ most → min (q * (tm E na).len) (most + 1) = most + 1 := fun h => by
        have h1 : 1 * (tm E na).len ≤ q * (tm E na).len := Nat.mul_le_mul_right _ (by omega)
        by_cases h2 : (tm E na).len ≤ most
        · rw [show min (tm E na).len (most + 1) = (tm E na).len by omega, Nat.mul_comm] at h; omega
        · omega
      generalize min (tm E na).len (most + 1) = x at *
      generalize min (q * (tm E na).len) (most + 1) = z at *
      generalize x * q = p at *
      generalize most / q = d at *
      have x1 : p ≤ most → splice (ints .i64 (clL E most k i)) (i + 1) [.int .i64 (p : Int)] = ints .i64 (clL E most k (i + 1)) := fun h => by
        rw [← hset, hzz, hp1 h]
      have x2 : ¬ p ≤ most → splice (ints .i64 (clL E most k i)) (i + 1) [.int .i64 ((most : Int) + 1)] = ints .i64 (clL E most k (i + 1)) := fun h => by
        rw [← hset, hzz, hp2 h]; rfl
      have hqb := hw.tim' (n := (i : Int) + 1) h1 h2
      dsimp only at hqb
      rw [hatE] at hqb
      generalize (E.getD i ent0).r = r at *
      (repeat' ((conv => whnf); first | rw [e1] | rw [hna] | rw [hq] | rw [hdiv] | rw [hmul] | rw [x1 (by omega)] | rw [x2 (by omega)] | rw [Int.toNat_natCast] | rw [Nat.mul_one] | refine ldCell la ?_ | (refine bcase_prop (fun h => ?_) (fun h => ?_) <;> try (exfalso; omega)) | (refine bcase_nprop (fun h => ?_) (fun h => ?_) <;> try (exfalso; omega)) | (refine bcase_intro (fun h => ?_) (fun h => ?_) <;> (try simp only [Bool.not_eq_true', Bool.not_eq_false', decide_eq_true_eq, decide_eq_false_iff_not, Bool.not_eq_true, Bool.not_eq_false, Decidable.not_not] at h)) | refine And.intro (by first | omega | exact rfl | assumption | exact ⟨rfl, rfl, rfl, rfl, rfl⟩ | exact ⟨rfl, rfl, rfl, rfl⟩ | exact ⟨rfl, by omega⟩ | exact oneAll_of rfl | exact ⟨rfl, oneAll_of rfl⟩ | exact Ref.refl _ | exact Thin.ref (.skip (Thin.refl _)) | exact Thin.ref (.skip (.skip (Thin.refl _))) | exact ⟨rfl, hll⟩ | exact ⟨by omega, by omega, by omega⟩ | exact ⟨rfl, Nat.le_of_ble_eq_true rfl⟩ | ((try unfold maxLen); (try simp only [List.length_nil, List.length_cons, List.length_append]); omega) | (refine ⟨rfl, ?_⟩; (try simp only [List.length_nil, List.length_cons, List.length_append]); omega)) ?_ | intro _)); (all_goals (conv => whnf))
      all_goals first | (exfalso; omega) | skip
      all_goals (refine loop_next (i + 1) hlt (by ((try dsimp only); omega)) (by (repeat ((conv => whnf); refine And.intro (by first | exact rfl | exact vint_eq (by omega) | exact vint_eq (by (dsimp only; omega)) | exact vsl_eq (by omega) | exact vsl_eq (by first | (dsimp only; omega) | (simp; done) | (simp; omega))) ?_)); exact trivial) (Thin.ref (.skip (.skip (.keep rfl (fun _ h => h) (.nil _))))))
theorem calls_Expand0 (most : Nat) (hm : most ≤ 65536) (a : Option Addr) (c : Nat) (w : World) :
    Calls Try.prog fn_evergreenref12_Expand #[.slice a 0 c, .int .i64 most] w fun e w' => ∃ v L1, e = .returned v ∧ R w [] L1 w' ∧ expQ most [] v L1 := by
  refine new_call [.v (.slice a 0 c), .v (.int .i64 most)] ok_evergreenref12_Expand (by simp) ?_
  (repeat' ((conv => whnf); first | (refine bcase_prop (fun h => ?_) (fun h => ?_) <;> try (exfalso; omega)) | (refine bcase_nprop (fun h => ?_) (fun h => ?_) <;> try (exfalso; omega)) | (refine bcase_intro (fun h => ?_) (fun h => ?_) <;> (try simp only [Bool.not_eq_true', Bool.not_eq_false', decide_eq_true_eq, decide_eq_false_iff_not, Bool.not_eq_true, Bool.not_eq_false, Decidable.not_not] at h)) | refine And.intro (by first | omega | exact rfl | assumption | exact ⟨rfl, rfl, rfl, rfl, rfl⟩ | exact ⟨rfl, rfl, rfl, rfl⟩ | exact ⟨rfl, by omega⟩ | exact oneAll_of rfl | exact ⟨rfl, oneAll_of rfl⟩ | exact Ref.refl _ | exact Thin.ref (.skip (Thin.refl _)) | exact Thin.ref (.skip (.skip (Thin.refl _))) | exact ⟨rfl, Nat.le_of_ble_eq_true rfl⟩ | ((try unfold maxLen); (try simp only [List.length_nil, List.length_cons, List.length_append]); omega) | (refine ⟨rfl, ?_⟩; (try simp only [List.length_nil, List.length_cons, List.length_append]); omega)) ?_ | intro _)); (all_goals (conv => whnf))
  all_goals first | (exfalso; omega) | skip
  exact ⟨⟨_, (Ref.ownNil 807 ty_uint8 1).trans (Thin.ref (.keep rfl (fun _ h => h) (.nil _))), .inl ⟨Nat.zero_le _, none, 0, rfl, rfl⟩⟩⟩
theorem offA_zero (a : Option Addr) (c sz : Nat) : offA a c 0 sz = a := by
  unfold offA
  split
  · rfl
  · cases a with
    | none => rfl
    | some x => simp [Addr.add]
theorem calls_Text {E : List Entr} (hw : WF ⟨1000, E⟩) {a1 a2 : Option Addr} {c1 c2 : Nat} (most : Nat) (hm : most ≤ 65536) {n : Int} (h0 : 0 ≤ n) (hn : n ≤ E.length) (w : World) (hc : E.length ≤ c1) (hin : In w [] a1 (ruE E)) :
    Calls Try.prog fn_evergreenref12_Text #[stV E.length a1 c1 a2 c2, .int .i64 n, .int .i64 most] w fun e w' => ∃ v L1, e = .returned v ∧ R w [] L1 w' ∧ expQ most (tm E n).txt v L1 := by
  refine new_call [.v (stV E.length a1 c1 a2 c2), .v (.int .i64 n), .v (.int .i64 most)] ok_evergreenref12_Text (by simp) ?_
  have hz := offA_zero a1 c1 5
  obtain ⟨k, rfl⟩ := Int.eq_ofNat_of_zero_le h0
  have ek : ((k : Int).toNat - Int.toNat 0) = k := by omega
  have cE : ∀ w, In w [] a1 (ruE E) → Calls Try.prog fn_evergreenref12_Expand #[.slice a1 k (c1 - Int.toNat 0), .int .i64 most] w fun e w' => ∃ v L1, e = .returned v ∧ R w [] L1 w' ∧ expQ most (tm E k).txt v L1 := fun w h => by
    by_cases hk : k = 0
    · subst hk
      exact calls_Expand0 most hm a1 _ w
    · exact calls_Expand hw k most (by omega) (by omega) hm w h
  unfold expQ at cE
  have hz' : offA a1 c1 (Int.toNat 0) 5 = a1 := hz
  generalize (tm E k).txt = T at *
  (repeat' ((conv => whnf); first | rw [ek] | rw [hz'] | refine ⟨.v _, ⟨rfl, trivial⟩, ?_⟩ | ((refine CallK_new (fun w hR => cE w (hin.cast hR (by simp))) ?_; rintro _ _ (⟨hq, a', c', rfl, rfl⟩ | ⟨hq, rfl, rfl⟩)) <;> refine ⟨.v _, rfl, ?_⟩) | (refine bcase_prop (fun h => ?_) (fun h => ?_) <;> try (exfalso; omega)) | (refine bcase_nprop (fun h => ?_) (fun h => ?_) <;> try (exfalso; omega)) | (refine bcase_intro (fun h => ?_) (fun h => ?_) <;> (try simp only [Bool.not_eq_true', Bool.not_eq_false', decide_eq_true_eq, decide_eq_false_iff_not, Bool.not_eq_true, Bool.not_eq_false, Decidable.not_not] at h)) | refine And.intro (by first | omega | exact rfl | assumption | exact ⟨rfl, rfl, rfl, rfl, rfl⟩ | exact ⟨rfl, rfl, rfl, rfl⟩ | exact ⟨rfl, by omega⟩ | exact oneAll_of rfl | exact ⟨rfl, oneAll_of rfl⟩ | exact Ref.refl _ | exact Thin.ref (.skip (Thin.refl _)) | exact Thin.ref (.skip (.skip (Thin.refl _))) | exact ⟨rfl, Nat.le_of_ble_eq_true rfl⟩ | ((try unfold maxLen); (try simp only [List.length_nil, List.length_cons, List.length_append]); omega) | (refine ⟨rfl, ?_⟩; (try simp only [List.length_nil, List.length_cons, List.length_append]); omega)) ?_ | intro _)); (all_goals (conv => whnf))
  · exact ⟨⟨_, Thin.ref (.keep rfl (fun _ h => h) (.nil _)), .inl ⟨hq, a', c', rfl, rfl⟩⟩⟩
  · exact ⟨⟨[], Thin.ref (.nil _), .inr ⟨hq, rfl, rfl⟩⟩⟩
end Go.Proofs.Ytohlphngnhcbfaa
/- The statements of chapters 16 and 19 that need no plain text: the program. -/
namespace Go.Proofs.Ytohlphngnhcbfaa
open Go.EG
attribute [local irreducible] CallK QCall Go.Calls
set_option linter.unusedSimpArgs false
set_option linter.unusedVariables false
set_option maxRecDepth 20000
set_option maxHeartbeats 4000000

end Go.Proofs.Ytohlphngnhcbfaa
/- Lines, positions, ranges: the references. -/
namespace Go.Proofs.Ytohlphngnhcbfaa
open Go.EG
attribute [local irreducible] CallK QCall Go.Calls
set_option linter.unusedSimpArgs false
set_option linter.unusedVariables false
set_option maxRecDepth 20000
set_option maxHeartbeats 4000000

/-! ### Plain -/

theorem take_next {t : List Nat} {i : Nat} (h : i < t.length) : t.take (i + 1) = t.take i ++ [t.getD i 0] := by
  rw [List.take_add_one, List.getD_eq_getElem?_getD, List.getElem?_eq_getElem h]; rfl
theorem byC_at {t : List Nat} {i : Nat} (h : i < t.length) : (byC t)[i]? = some (.int .u8 (t.getD i 0 : Nat)) := by
  simp [byC, List.getD_eq_getElem?_getD, h]
theorem byC_sub (t : List Nat) (i n : Nat) : ((byC t).drop i).take n = byC (sub t i n) := by simp [byC, sub, List.map_drop, List.map_take]
/-- A range of a row, read. -/
theorem In.off {w0 : World} {fp0 : List Nat} {a : Option Addr} {xs : List Value} (h : In w0 fp0 a xs) {c i : Nat} (n : Nat) (hc : xs.length ≤ c) : In w0 fp0 (offA a c i 1) ((xs.drop i).take n) := by
  by_cases hi : i < xs.length
  · rcases h with rfl | ⟨b, off, rfl, h1, h2, h3⟩
    · simp at hi
    · refine .inr ⟨b, off + i, ?_, h1, h2, fun j v hv => ?_⟩
      · unfold offA
        rw [if_neg (by omega), Nat.mul_one]
        simp [Addr.add]
        try omega
      · rw [Nat.add_assoc]
        refine h3 _ v ?_
        rw [List.getElem?_take] at hv
        split at hv
        · simpa using hv
        · cases hv
  · exact .inl (by rw [List.drop_eq_nil_of_le (by omega)]; simp)

/-! ### Walks -/

theorem calls_r16Valid (f n : Int) (L : Nat) (hf : -9223372036854775808 ≤ f ∧ f ≤ 9223372036854775807) (hL : L ≤ LM) (w : World) : Calls Try.prog fn_evergreenref16_Valid #[.int .i64 f, .int .i64 n, .int .i64 L] w fun e w' => e = .returned (.bool (decide (0 ≤ f ∧ 0 ≤ n ∧ f ≤ L ∧ n ≤ L - f))) ∧ Ext w w' := by
  refine pure_call [.v (.int .i64 f), .v (.int .i64 n), .v (.int .i64 L)] w ok_evergreenref16_Valid (by simp) ?_
  unfold LM at hL
  (repeat' ((conv => whnf); first | (refine bcase_prop (fun h => ?_) (fun h => ?_) <;> try (exfalso; omega)) | (refine bcase_nprop (fun h => ?_) (fun h => ?_) <;> try (exfalso; omega)) | (refine bcase_intro (fun h => ?_) (fun h => ?_) <;> (try simp only [Bool.not_eq_true', Bool.not_eq_false', decide_eq_true_eq, decide_eq_false_iff_not, Bool.not_eq_true, Bool.not_eq_false, Decidable.not_not] at h)) | refine And.intro (by first | omega | exact rfl | assumption | exact ⟨rfl, rfl, rfl, rfl, rfl⟩ | exact ⟨rfl, rfl, rfl, rfl⟩ | exact ⟨rfl, by omega⟩ | exact oneAll_of rfl | exact ⟨rfl, oneAll_of rfl⟩ | exact Ref.refl _ | exact Thin.ref (.skip (Thin.refl _)) | exact Thin.ref (.skip (.skip (Thin.refl _))) | exact ⟨rfl, Nat.le_of_ble_eq_true rfl⟩ | ((try unfold maxLen); (try simp only [List.length_nil, List.length_cons, List.length_append]); omega) | (refine ⟨rfl, ?_⟩; (try simp only [List.length_nil, List.length_cons, List.length_append]); omega)) ?_ | intro _)); (all_goals (conv => whnf))
  all_goals (refine ⟨?_⟩; congr 1; first | (rw [decide_eq_decide]; omega) | (symm; rw [decide_eq_false_iff_not]; omega))
/-- The text, with its capacity. -/
theorem calls_TextN {E : List Entr} (hw : WF ⟨1000, E⟩) {a1 a2 : Option Addr} {c1 c2 : Nat} (most : Nat) (hm : most ≤ 65536) {n : Int} (h0 : 0 ≤ n) (hn : n ≤ E.length) (w : World) (hc : E.length ≤ c1) (hin : In w [] a1 (ruE E)) :
    Calls Try.prog fn_evergreenref12_Text #[stV E.length a1 c1 a2 c2, .int .i64 n, .int .i64 most] w fun e w' => ∃ v L1, e = .returned v ∧ R w [] L1 w' ∧
      ((((tm E n).txt.length ≤ most ∧ ∃ a c, (tm E n).txt.length ≤ c ∧ v = .tuple #[.slice a (tm E n).txt.length c, .bool true] ∧ L1 = [.own 807 a (tm E n).txt.length c ty_uint8 1 (byC (tm E n).txt)])) ∨
      (most < (tm E n).txt.length ∧ v = .tuple #[.slice none 0 0, .bool false] ∧ L1 = [])) :=
  (calls_Text hw most hm h0 hn w hc hin).mono fun e w' ⟨v, L1, he, hR', hq⟩ => by
    rcases hq with ⟨h1, a, c, hv, hL⟩ | ⟨h1, hv, hL⟩
    · subst hL
      exact ⟨v, _, he, hR', .inl ⟨h1, a, c, own_cap hR' (key := 807) rfl, hv, rfl⟩⟩
    · exact ⟨v, L1, he, hR', .inr ⟨h1, hv, hL⟩⟩
theorem inSub {w : World} {fp : List Nat} {a : Option Addr} {T : List Nat} {c i m : Nat} (h : In w fp a (byC T)) (hc : T.length ≤ c) : In w fp (offA a c i 1) (byC (sub T i m)) := by
  have h := In.off h (c := c) (i := i) m (by rw [byC_length]; exact hc)
  rw [byC_sub] at h
  exact h
end Go.Proofs.Ytohlphngnhcbfaa
/- The fixed example of chapter 16; lists and texts that are compared; the way to a letter, by the reference. -/
namespace Go.Proofs.Ytohlphngnhcbfaa
open Go.EG
attribute [local irreducible] CallK QCall Go.Calls
set_option linter.unusedSimpArgs false
set_option linter.unusedVariables false
set_option maxRecDepth 20000
set_option maxHeartbeats 4000000

/-- The cells of a row of one's own, read. -/
theorem rdsR {w0 : World} {fp0 : List Nat} {L : List Ent} (key : Nat) {a : Option Addr} {n c T sz m : Nat} {xs : List Value} (h : ownAt key L = some ⟨a, n, c, T, sz, xs⟩) (hm : m = xs.length) : RdS w0 fp0 L a m xs := by
  refine ⟨hm, ?_⟩
  by_cases hx : xs = []
  · exact .inl hx
  · refine .inr fun w hR => ?_
    obtain ⟨v0, hv0⟩ : ∃ v, xs[0]? = some v := ⟨xs[0]'(List.length_pos_iff.2 hx), by simp⟩
    obtain ⟨g, ha, _⟩ := cell_own hR h hv0
    refine ⟨g, 0, ha, fun j v hv => ?_⟩
    obtain ⟨g', ha', hc⟩ := cell_own hR h hv
    rw [ha] at ha'
    simp only [Option.some.injEq, Addr.mk.injEq, and_true] at ha'
    subst ha'
    rw [Nat.zero_add]; exact hc

theorem calls_IDs (P : List Int) (a a' : Option Addr) (c c' : Nat) (hl : P.length ≤ 2000000) (w : World) (h1 : In w [] a (ints .i64 P)) (h2 : In w [] a' (ints .i64 P)) :
    Calls Try.prog fn_evergreenbase_IDs #[.slice a P.length c, .slice a' P.length c'] w fun e w' => e = .returned (.bool true) ∧ Ext w w' := by
  refine pure_call [.v (.slice a P.length c), .v (.slice a' P.length c')] w ok_evergreenbase_IDs (by simp) ?_
  (repeat' ((conv => whnf); first | (refine bcase_prop (fun h => ?_) (fun h => ?_) <;> try (exfalso; omega)) | (refine bcase_nprop (fun h => ?_) (fun h => ?_) <;> try (exfalso; omega)) | (refine bcase_intro (fun h => ?_) (fun h => ?_) <;> (try simp only [Bool.not_eq_true', Bool.not_eq_false', decide_eq_true_eq, decide_eq_false_iff_not, Bool.not_eq_true, Bool.not_eq_false, Decidable.not_not] at h)) | refine And.intro (by first | omega | exact rfl | assumption | exact ⟨rfl, rfl, rfl, rfl, rfl⟩ | exact ⟨rfl, rfl, rfl, rfl⟩ | exact ⟨rfl, by omega⟩ | exact oneAll_of rfl | exact ⟨rfl, oneAll_of rfl⟩ | exact Ref.refl _ | exact Thin.ref (.skip (Thin.refl _)) | exact Thin.ref (.skip (.skip (Thin.refl _))) | exact ⟨rfl, Nat.le_of_ble_eq_true rfl⟩ | ((try unfold maxLen); (try simp only [List.length_nil, List.length_cons, List.length_append]); omega) | (refine ⟨rfl, ?_⟩; (try simp only [List.length_nil, List.length_cons, List.length_append]); omega)) ?_ | intro _)); (all_goals (conv => whnf))
  all_goals first | (exfalso; omega) | skip
  refine VC_loop Nat (fun i => [(0, .v (.slice a P.length c)), (1, .v (.slice a' P.length c')), (5, .v (.int .i64 i))]) (fun _ => []) (fun i => i ≤ P.length) (fun i => P.length - i) 0 (Nat.zero_le _) (by (repeat ((conv => whnf); refine And.intro (by first | exact rfl | exact vint_eq (by omega) | exact vint_eq (by (dsimp only; omega)) | exact vsl_eq (by omega) | exact vsl_eq (by first | (dsimp only; omega) | (simp; done) | (simp; omega))) ?_)); exact trivial) (Ref.refl _) ?_
  intro i hi
  by_cases hlt : i < P.length
  · have r1 := fun {L : List Ent} => rdI (L := L) h1 hlt
    have r2 := fun {L : List Ent} => rdI (L := L) h2 hlt
    have n1 : a ≠ none := neI h1 (by omega)
    have n2 : a' ≠ none := neI h2 (by omega)
    generalize P.getD i 0 = x at *
    (repeat' ((conv => whnf); first | rw [Int.toNat_natCast] | rw [Nat.mul_one] | refine ⟨_, r1, ?_⟩ | refine ⟨_, r2, ?_⟩ | (refine bcase_prop (fun h => ?_) (fun h => ?_) <;> try (exfalso; omega)) | (refine bcase_nprop (fun h => ?_) (fun h => ?_) <;> try (exfalso; omega)) | (refine bcase_intro (fun h => ?_) (fun h => ?_) <;> (try simp only [Bool.not_eq_true', Bool.not_eq_false', decide_eq_true_eq, decide_eq_false_iff_not, Bool.not_eq_true, Bool.not_eq_false, Decidable.not_not] at h)) | refine And.intro (by first | omega | exact rfl | assumption | exact ⟨rfl, rfl, rfl, rfl, rfl⟩ | exact ⟨rfl, rfl, rfl, rfl⟩ | exact ⟨rfl, by omega⟩ | exact oneAll_of rfl | exact ⟨rfl, oneAll_of rfl⟩ | exact Ref.refl _ | exact Thin.ref (.skip (Thin.refl _)) | exact Thin.ref (.skip (.skip (Thin.refl _))) | exact n1 | exact n2 | exact ⟨rfl, Nat.le_of_ble_eq_true rfl⟩ | ((try unfold maxLen); (try simp only [List.length_nil, List.length_cons, List.length_append]); omega) | (refine ⟨rfl, ?_⟩; (try simp only [List.length_nil, List.length_cons, List.length_append]); omega)) ?_ | intro _)); (all_goals (conv => whnf))
    all_goals first | (exfalso; omega) | skip
    exact loop_next (i + 1) hlt (by ((try dsimp only); omega)) (by (repeat ((conv => whnf); refine And.intro (by first | exact rfl | exact vint_eq (by omega) | exact vint_eq (by (dsimp only; omega)) | exact vsl_eq (by omega) | exact vsl_eq (by first | (dsimp only; omega) | (simp; done) | (simp; omega))) ?_)); exact trivial) (Ref.refl _)
  · (repeat' ((conv => whnf); first | (refine bcase_prop (fun h => ?_) (fun h => ?_) <;> try (exfalso; omega)) | (refine bcase_nprop (fun h => ?_) (fun h => ?_) <;> try (exfalso; omega)) | (refine bcase_intro (fun h => ?_) (fun h => ?_) <;> (try simp only [Bool.not_eq_true', Bool.not_eq_false', decide_eq_true_eq, decide_eq_false_iff_not, Bool.not_eq_true, Bool.not_eq_false, Decidable.not_not] at h)) | refine And.intro (by first | omega | exact rfl | assumption | exact ⟨rfl, rfl, rfl, rfl, rfl⟩ | exact ⟨rfl, rfl, rfl, rfl⟩ | exact ⟨rfl, by omega⟩ | exact oneAll_of rfl | exact ⟨rfl, oneAll_of rfl⟩ | exact Ref.refl _ | exact Thin.ref (.skip (Thin.refl _)) | exact Thin.ref (.skip (.skip (Thin.refl _))) | exact ⟨rfl, Nat.le_of_ble_eq_true rfl⟩ | ((try unfold maxLen); (try simp only [List.length_nil, List.length_cons, List.length_append]); omega) | (refine ⟨rfl, ?_⟩; (try simp only [List.length_nil, List.length_cons, List.length_append]); omega)) ?_ | intro _)); (all_goals (conv => whnf))
    all_goals first | (exfalso; omega) | exact ⟨rfl⟩

/-! ### The example -/

def gX : List Rul := [⟨1, 97, 0, 0, 0⟩, ⟨1, 98, 0, 0, 0⟩, ⟨2, 0, 1, 2, 0⟩, ⟨3, 0, 3, 0, 3⟩, ⟨2, 0, 4, 1, 0⟩]
def eX : List Entr := [⟨⟨1, 97, 0, 0, 0⟩, .lt 97⟩, ⟨⟨1, 98, 0, 0, 0⟩, .lt 98⟩, ⟨⟨2, 0, 1, 2, 0⟩, .pr (.lt 97) (.lt 98)⟩, ⟨⟨3, 0, 3, 0, 3⟩, .pw (.pr (.lt 97) (.lt 98)) 3⟩, ⟨⟨2, 0, 4, 1, 0⟩, .pr (.pw (.pr (.lt 97) (.lt 98)) 3) (.lt 97)⟩]
theorem gX_chk : chk 1 gX = 0 := by decide
theorem gX_rul : ∀ i, i < gX.length → okR (gX.getD i rul0) (i + 1) := fun i hi => by
  have := (chk_zero.1 gX_chk) i hi
  rwa [show (1 : Int) + (i : Int) = i + 1 by omega] at this
theorem gX_let : ∀ i, i < gX.length → 0 ≤ (gX.getD i rul0).l ∧ (gX.getD i rul0).l < 256 := by decide
theorem gX_gram : Gram gX := ⟨gX_rul, gX_let, by decide⟩
theorem gX_imp : stImp ⟨10, []⟩ [0] gX = some (⟨10, eX⟩, [0, 1, 2, 3, 4, 5]) := by rfl
theorem gX_wf : WF ⟨10, eX⟩ := by
  obtain ⟨S, to, h1, h2, _⟩ := stImp_ok (g := gX) (WF.new 10 (by decide)) (Rel.start _) (fun i hi => by
    have := gX_rul i hi
    rwa [show (([] : List Tm).length : Int) + 1 + (i : Int) = i + 1 by simp; omega]) gX_let (by decide) (by decide)
  rw [gX_imp] at h1
  simp only [Option.some.injEq, Prod.mk.injEq] at h1
  rw [h1.1]; exact h2
theorem gX_path : pathL eX 5 5 = [5, 4, 3, 2] := by
  rw [pathL, if_neg (by decide), if_neg (by decide), if_pos (by decide), dif_pos (by decide)]
  rw [pathL, if_neg (by decide), if_pos (by decide), dif_pos (by decide)]
  rw [pathL, if_neg (by decide), if_neg (by decide), if_neg (by decide), dif_pos (by decide)]
  rw [pathL, if_pos (by decide)]
  rfl
theorem gX_sub : sub (tm eX 5).txt 2 3 = [97, 98, 97] := by decide
theorem calls_awake16 (w : World) : Calls Try.prog fn_evergreenlaw16_awake #[] w fun e w' => e = .returned (.bool true) ∧ Ext w w' := by
  refine pure_call [] w ok_evergreenlaw16_awake (by simp) ?_
  have c1 := fun w => calls_New 10 77 w
  rw [show clipS 10 = 10 from rfl] at c1
  have c2 := fun b key fp w hR a c hin => calls_Import b ⟨10, []⟩ (WF.new 10 (by decide)) gX gX_gram ⟨10, eX⟩ _ gX_imp (by decide) a c key fp w hR hin
  have hl : gX.length = 5 := rfl
  rw [hl, show ([0, 1, 2, 3, 4, 5] : List Int).getD 5 0 = 5 from rfl] at c2
  have hk : known ⟨10, eX⟩ 5 := by decide
  have c3 := fun b key fp w h => calls_Extract b ⟨10, eX⟩ gX_wf 5 2 3 hk (by decide) (by decide) key fp w h
  have c4 := fun b key fp w h => calls_Path b ⟨10, eX⟩ gX_wf 5 5 hk (by decide) (by decide) key fp w h
  rw [gX_sub] at c3
  rw [show (5 : Int).toNat = 5 from rfl, gX_path] at c4
  have c5 := fun a a' c c' w h h' => calls_IDs [5, 4, 3, 2] a a' c c' (by decide) w h h'
  (repeat' ((conv => whnf); first | (refine CallK_new (fun w hR => c1 w) ?_; rintro _ _ ⟨bn, fpn, rfl, rfl⟩; refine ⟨.v _, rfl, ?_⟩) | (refine CallK_pack (key := 77) rfl (fun w hR h0 => c2 _ _ _ _ h0 _ _ (In.beside (key := 18) hR rfl)) ?_; rintro _ _ ⟨rfl, fp', rfl⟩; refine ⟨.v _, rfl, ?_⟩) | (refine CallK_pack (key := 77) rfl (fun w hR h0 => c3 _ _ _ _ h0) ?_; rintro _ _ ⟨a6, k6, fp', rfl, rfl⟩; refine ⟨.v _, rfl, ?_⟩) | (refine CallK_pack (key := 77) rfl (fun w hR h0 => c4 _ _ _ _ h0) ?_; rintro _ _ ⟨a5, k5, fp', rfl, rfl⟩; refine ⟨.v _, rfl, ?_⟩) | refine ⟨_, rdsR 806 rfl rfl, ?_⟩ | refine ⟨[97, 98, 97], rfl, ?_⟩ | (refine CallK_pure (.v _) (fun w' hR => c5 _ _ _ _ w' (In.ownR (key := 805) hR rfl) (In.ownR (key := 51) hR rfl)) ?_) | (refine bcase_prop (fun h => ?_) (fun h => ?_) <;> try (exfalso; omega)) | (refine bcase_nprop (fun h => ?_) (fun h => ?_) <;> try (exfalso; omega)) | (refine bcase_intro (fun h => ?_) (fun h => ?_) <;> (try simp only [Bool.not_eq_true', Bool.not_eq_false', decide_eq_true_eq, decide_eq_false_iff_not, Bool.not_eq_true, Bool.not_eq_false, Decidable.not_not] at h)) | refine And.intro (by first | omega | exact rfl | assumption | exact ⟨rfl, rfl, rfl, rfl, rfl⟩ | exact ⟨rfl, rfl, rfl, rfl⟩ | exact ⟨rfl, by omega⟩ | exact oneAll_of rfl | exact ⟨rfl, oneAll_of rfl⟩ | exact Ref.refl _ | exact Thin.ref (.skip (Thin.refl _)) | exact Thin.ref (.skip (.skip (Thin.refl _))) | exact ⟨rfl, Nat.le_of_ble_eq_true rfl⟩ | ((try unfold maxLen); (try simp only [List.length_nil, List.length_cons, List.length_append]); omega) | (refine ⟨rfl, ?_⟩; (try simp only [List.length_nil, List.length_cons, List.length_append]); omega)) ?_ | intro _)); (all_goals (conv => whnf))
  all_goals exact ⟨rfl⟩
end Go.Proofs.Ytohlphngnhcbfaa
/- Ranges that lie inside: the program. -/
namespace Go.Proofs.Ytohlphngnhcbfaa
open Go.EG
attribute [local irreducible] CallK QCall Go.Calls
set_option linter.unusedSimpArgs false
set_option linter.unusedVariables false
set_option maxRecDepth 20000
set_option maxHeartbeats 4000000

end Go.Proofs.Ytohlphngnhcbfaa
/- Letters of texts: the program. -/
namespace Go.Proofs.Ytohlphngnhcbfaa
open Go.EG
attribute [local irreducible] CallK QCall Go.Calls
set_option linter.unusedSimpArgs false
set_option linter.unusedVariables false
set_option maxRecDepth 20000
set_option maxHeartbeats 4000000

/-- Letters are bytes. -/
theorem rep_mem {t : List Nat} {k x : Nat} (h : x ∈ rep k t) : x ∈ t := by
  unfold rep at h
  obtain ⟨l, hl, hx⟩ := List.mem_flatten.1 h
  rw [(List.mem_replicate.1 hl).2] at hx
  exact hx
theorem WF.bytes {S : Sto} (hw : WF S) : ∀ (f : Nat) (n : Int), n.toNat ≤ f → n ≤ S.E.length → ∀ x ∈ (tm S.E n).txt, x < 256
  | 0, n, hf, hn, x, hx => by
    have h0 : n ≤ 0 := by omega
    rw [tm, atE, if_pos h0] at hx
    simp [ent0, Tm.txt] at hx
  | f + 1, n, hf, hn, x, hx => by
    by_cases h1 : 1 ≤ n
    case neg =>
      have h0 : n ≤ 0 := by omega
      rw [tm, atE, if_pos h0] at hx
      simp [ent0, Tm.txt] at hx
    rcases hw.below h1 hn with ⟨q1, ht⟩ | ⟨q1, ht, a1, a2, b1, b2⟩ | ⟨q1, ht, a1, a2, t2⟩
    · rw [ht] at hx
      have := (hw.at_ h1 hn).2.1
      simp only [Tm.txt, List.mem_singleton] at hx
      omega
    · rw [ht] at hx
      simp only [Tm.txt, List.mem_append] at hx
      rcases hx with hx | hx
      · exact WF.bytes hw f _ (by omega) (by omega) x hx
      · exact WF.bytes hw f _ (by omega) (by omega) x hx
    · rw [ht] at hx
      simp only [Tm.txt] at hx
      exact WF.bytes hw f _ (by omega) (by omega) x (rep_mem hx)
theorem sub_mem {t : List Nat} {i m x : Nat} (h : x ∈ sub t i m) : x ∈ t := List.mem_of_mem_drop (List.mem_of_mem_take h)
/-- A store with the rules of a list, one of the results, and its text. -/
def plQ (g : List Rul) (pick : Int) (v : Value) (L1 : List Ent) : Prop :=
  ∃ b fp, (((tm (gS g).E (gId g pick)).txt.length ≤ 4096 ∧ ∃ a c, (tm (gS g).E (gId g pick)).txt.length ≤ c ∧ v = .tuple #[pS b, .int .i64 (gId g pick), .slice a (tm (gS g).E (gId g pick)).txt.length c, .bool true, .bool true] ∧ L1 = [packE 77 fp (fS b (gS g)), .own 807 a (tm (gS g).E (gId g pick)).txt.length c ty_uint8 1 (byC (tm (gS g).E (gId g pick)).txt)]) ∨
    (4096 < (tm (gS g).E (gId g pick)).txt.length ∧ v = .tuple #[pS b, .int .i64 (gId g pick), .slice none 0 0, .bool true, .bool false] ∧ L1 = [packE 77 fp (fS b (gS g))]))
theorem calls_plain16 (g : List Rul) (hg : MIn g) (hl : g.length ≤ 40) (pick : Int) (hp : -9223372036854775808 ≤ pick ∧ pick ≤ 9223372036854775807) (a : Option Addr) (c : Nat) (w : World) (hin : In w [] a (rulsC g)) :
    Calls Try.prog fn_evergreenlaw16_plain #[.slice a g.length c, .int .i64 pick] w fun e w' => ∃ v L1, e = .returned v ∧ R w [] L1 w' ∧ plQ g pick v L1 := by
  refine new_call [.v (.slice a g.length c), .v (.int .i64 pick)] ok_evergreenlaw16_plain (by simp) ?_
  have c1 := fun w h => calls_begun16 g hg hl pick hp a c w h
  have hw := gS_wf hg hl
  have hk := gId_known hg hl pick
  unfold begQ at c1
  unfold plQ
  generalize gId g pick = id at *
  have cT := fun a1 c1 a2 c2 w h1 h2 => calls_TextN (a1 := a1) (c1 := c1) (a2 := a2) (c2 := c2) (E := gE g) hw 4096 (by decide) hk.1 hk.2 w h1 h2
  (repeat' ((conv => whnf); first | ((refine CallK_new (fun w hR => c1 w (hin.cast hR (by simp))) ?_); rintro _ _ ⟨b, a1, k1, a2, k2, fpb, rfl, rfl⟩; refine ⟨.v _, rfl, ?_⟩) | ((refine CallK_new (fun w hR => cT _ _ _ _ w (own_cap hR (key := 801) rfl) (In.ownR (key := 801) hR rfl)) ?_; rintro _ _ (⟨hq, a5, k5, hk5, rfl, rfl⟩ | ⟨hq, rfl, rfl⟩)) <;> refine ⟨.v _, rfl, ?_⟩) | (refine bcase_prop (fun h => ?_) (fun h => ?_) <;> try (exfalso; omega)) | (refine bcase_nprop (fun h => ?_) (fun h => ?_) <;> try (exfalso; omega)) | (refine bcase_intro (fun h => ?_) (fun h => ?_) <;> (try simp only [Bool.not_eq_true', Bool.not_eq_false', decide_eq_true_eq, decide_eq_false_iff_not, Bool.not_eq_true, Bool.not_eq_false, Decidable.not_not] at h)) | refine And.intro (by first | omega | exact rfl | assumption | exact ⟨rfl, rfl, rfl, rfl, rfl⟩ | exact ⟨rfl, rfl, rfl, rfl⟩ | exact ⟨rfl, by omega⟩ | exact oneAll_of rfl | exact ⟨rfl, oneAll_of rfl⟩ | exact Ref.refl _ | exact Thin.ref (.skip (Thin.refl _)) | exact Thin.ref (.skip (.skip (Thin.refl _))) | exact ⟨rfl, Nat.le_of_ble_eq_true rfl⟩ | ((try unfold maxLen); (try simp only [List.length_nil, List.length_cons, List.length_append]); omega) | (refine ⟨rfl, ?_⟩; (try simp only [List.length_nil, List.length_cons, List.length_append]); omega)) ?_ | intro _)); (all_goals (conv => whnf))
  · exact ⟨⟨_, (refPick 77 rfl).trans (Thin.ref (.keep rfl (fun _ h => h) (.keep rfl (fun _ h => h) (.nil _)))), b, fpb, .inl ⟨hq, a5, k5, hk5, rfl, rfl⟩⟩⟩
  · exact ⟨⟨_, (refPick 77 rfl).trans (Thin.ref (.keep rfl (fun _ h => h) (.nil _))), b, fpb, .inr ⟨hq, rfl, rfl⟩⟩⟩
end Go.Proofs.Ytohlphngnhcbfaa

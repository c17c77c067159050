/- What a parser refuses: the program. -/
import Derived.Test.YtkkhpdkfploodaaGreatDoorK8
import Derived.Test.YtkkhpdkfploodaaGreatDoorK9
namespace Go.Proofs.YtkkhpdkfploodaaGreatDoor
open Go.EG
attribute [local irreducible] CallK QCall Go.Calls
set_option linter.unusedSimpArgs false
set_option linter.unusedVariables false
set_option maxRecDepth 20000
set_option maxHeartbeats 4000000
def PC (f : Nat) (args : Array Value) (bp bt bs : Nat) (S : Sto) (r : Value) : Prop :=
  ∀ (f1 f2 fp : List Nat) (w : World),R w fp (fP bp bt bs S f1 f2) w → TabF w fp → Calls Tryz.prog f args w fun e w' => ∃ v L1,e = .returned v ∧ R w fp L1 w' ∧ v = r ∧ ∃ g1 g2,L1 = fP bp bt bs S g1 g2
theorem calls_SeqBad (bp bt bs : Nat) (S : Sto) (hw : WF S) (id level : Int) (h : id < 0 ∨ S.E.length < id ∨ level < 0) : PC fn_P_signature_Parser_Sequence #[pS bp,.int .i64 id,.int .i64 level] bp bt bs S (.tuple #[.slice none 0 0,errV 1]) := by
  intro f1 f2 fp w hR hG
  refine part_call [.ptr 3000 bp 0,.v (.int .i64 id),.v (.int .i64 level)] ok_P_signature_Parser_Sequence (by simp) hR ?_
  have c1 := calls_sLen bs S
  have hsm := hw.small
  (repeat' ((conv => whnf); first | (refine CallK_pack (key := 77) rfl (fun w hR h0 => c1 _ _ _ h0) ?_; rintro _ _ ⟨rfl,fp',rfl⟩; refine ⟨.v _,rfl,?_⟩) | refine ⟨_,⟨rfl,trivial⟩,?_⟩ | (refine bcase_prop (fun h => ?_) (fun h => ?_) <;> try (exfalso; omega)) | (refine bcase_nprop (fun h => ?_) (fun h => ?_) <;> try (exfalso; omega)) | (refine bcase_intro (fun h => ?_) (fun h => ?_) <;> (try simp only [Bool.not_eq_true',Bool.not_eq_false',decide_eq_true_eq,decide_eq_false_iff_not,Bool.not_eq_true,Bool.not_eq_false,Decidable.not_not] at h)) | refine And.intro (by first | omega | exact rfl | assumption | exact ⟨rfl,rfl,rfl,rfl,rfl⟩ | exact ⟨rfl,rfl,rfl,rfl⟩ | exact ⟨rfl,by omega⟩ | exact oneAll_of rfl | exact ⟨rfl,oneAll_of rfl⟩ | exact Ref.refl _ | exact Thin.ref (.skip (Thin.refl _)) | exact Thin.ref (.skip (.skip (Thin.refl _))) | exact ⟨rfl,Nat.le_of_ble_eq_true rfl⟩ | ((try unfold maxLen); (try simp only [List.length_nil,List.length_cons,List.length_append]); omega) | (refine ⟨rfl,?_⟩; (try simp only [List.length_nil,List.length_cons,List.length_append]); omega)) ?_ | intro _)); (all_goals (conv => whnf))
  all_goals first | (exfalso; omega) | exact ⟨⟨_,Ref.takes [78,77,3000] rfl (Thin.refl _),rfl,_,_,rfl⟩⟩
end Go.Proofs.YtkkhpdkfploodaaGreatDoor

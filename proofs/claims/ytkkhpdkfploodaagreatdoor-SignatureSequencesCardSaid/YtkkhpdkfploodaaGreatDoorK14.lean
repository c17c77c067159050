/- The text of a grammar, by the reference: the program. -/
import Derived.Test.YtkkhpdkfploodaaGreatDoorK5
import Derived.Test.YtkkhpdkfploodaaGreatDoorK13
import Derived.Shelf.SlGeneric
import Derived.Ground.SlgmProg
import Derived.Shelf.SortM.Plain
import Derived.Test.YtkkhpdkfploodaaGreatDoorProg
import Derived.Test.YtkkhpdkfploodaaGreatDoorK11
import Derived.Test.YtkkhpdkfploodaaGreatDoorK8
import Derived.Test.YtkkhpdkfploodaaGreatDoorK12
namespace Go.Proofs.YtkkhpdkfploodaaGreatDoor
open Go.EG
attribute [local irreducible] CallK QCall Go.Calls
set_option linter.unusedSimpArgs false
set_option linter.unusedVariables false
set_option maxRecDepth 20000
set_option maxHeartbeats 4000000
theorem Gr.tim {g : List Rul} {ms : List Tm} (h : Gr g ms) {i : Nat} (hi : i < g.length) : (g.getD i rul0).t ≤ 9223372036854775807 := by
  obtain ⟨hc,_,_⟩ := h.cases hi
  rcases h.ok i hi with ⟨e1,e2,e3,e4,_⟩ | ⟨e1,e2,e3,e4,e5,e6,e7⟩ | ⟨e1,e2,e3,e4,e5,e6⟩
  · omega
  · omega
  · rcases hc with ⟨k1,_⟩ | ⟨k1,_⟩ | ⟨k1,kb,p,k,p1,k2,pa,kt,ht,hs⟩
    · omega
    · omega
    · have h1 := (h.fit p (by omega)).1
      have e : mAt ms ((p : Int) + 1) = ms.getD p .nil := by
        unfold mAt
        rw [if_neg (by omega),show ((p : Int) + 1).toNat - 1 = p by omega]
      rw [e] at hs
      have := Nat.mul_le_mul_left k h1
      have hLM : LM = 1152921504606846976 := rfl
      omega
end Go.Proofs.YtkkhpdkfploodaaGreatDoor
/- The library's sort of a row of IDs,laid at this program (written by the kit's tool for plain words). No condition. -/
namespace Go.Proofs
open Go.Shelf
def Tryz.laysSlgm5_f68_ren : Go.Shelf.Ren := ⟨fun | 5 => 68 | 8 => 80 | 7 => 79 | 19 => 95 | 20 => 96 | 10 => 86 | 11 => 87 | 12 => 88 | 13 => 89 | 14 => 90 | 15 => 91 | 16 => 92 | 17 => 93 | 18 => 94 | 30 => 100 | 31 => 101 | 32 => 102 | 33 => 103 | 34 => 104 | 35 => 105 | 40 => 106 | n => n,fun | 23 => 42 | 25 => 27 | 3 => 3 | 32 => 159 | 22 => 42 | 0 => 0 | 44 => 170 | 46 => 85 | 4 => 4 | 36 => 163 | 35 => 162 | 41 => 154 | 5 => 5 | 9 => 9 | 53 => 175 | 57 => 179 | 63 => 182 | 64 => 183 | n => n,fun | n => n⟩
theorem Tryz.laysSlgm5_f68 : Go.Proofs.SlLaysM.n5 Tryz.prog Tryz.laysSlgm5_f68_ren := {
  mixed := by kernel_rfl
  f5 := ⟨Tryz.f68.name,by decide,Tryz.func68.trans (congrArg some (by kernel_rfl))⟩
  f7 := ⟨Tryz.f79.name,by decide,Tryz.func79.trans (congrArg some (by kernel_rfl))⟩
  f8 := Tryz.func80.trans (congrArg some (by kernel_rfl))
  f10 := ⟨Tryz.f86.name,by decide,Tryz.func86.trans (congrArg some (by kernel_rfl))⟩
  f11 := ⟨Tryz.f87.name,by decide,Tryz.func87.trans (congrArg some (by kernel_rfl))⟩
  f12 := ⟨Tryz.f88.name,by decide,Tryz.func88.trans (congrArg some (by kernel_rfl))⟩
  f13 := ⟨Tryz.f89.name,by decide,Tryz.func89.trans (congrArg some (by kernel_rfl))⟩
  f14 := ⟨Tryz.f90.name,by decide,Tryz.func90.trans (congrArg some (by kernel_rfl))⟩
  f15 := ⟨Tryz.f91.name,by decide,Tryz.func91.trans (congrArg some (by kernel_rfl))⟩
  f16 := ⟨Tryz.f92.name,by decide,Tryz.func92.trans (congrArg some (by kernel_rfl))⟩
  f17 := ⟨Tryz.f93.name,by decide,Tryz.func93.trans (congrArg some (by kernel_rfl))⟩
  f18 := ⟨Tryz.f94.name,by decide,Tryz.func94.trans (congrArg some (by kernel_rfl))⟩
  f19 := Tryz.func95.trans (congrArg some (by kernel_rfl))
  f20 := Tryz.func96.trans (congrArg some (by kernel_rfl))
  f30 := ⟨Tryz.f100.name,by decide,Tryz.func100.trans (congrArg some (by kernel_rfl))⟩
  f31 := Tryz.func101.trans (congrArg some (by kernel_rfl))
  f32 := Tryz.func102.trans (congrArg some (by kernel_rfl))
  f33 := ⟨Tryz.f103.name,by decide,Tryz.func103.trans (congrArg some (by kernel_rfl))⟩
  f34 := ⟨Tryz.f104.name,by decide,Tryz.func104.trans (congrArg some (by kernel_rfl))⟩
  f35 := ⟨Tryz.f105.name,by decide,Tryz.func105.trans (congrArg some (by kernel_rfl))⟩
  f40 := ⟨Tryz.f106.name,by decide,Tryz.func106.trans (congrArg some (by kernel_rfl))⟩
  t0 := Tryz.underlying0
  a0 := Tryz.isAgg0
  z0 := Tryz.sizeOf0
  v0 := Tryz.zeroValue0
  t3 := Tryz.underlying3
  a3 := Tryz.isAgg3
  z3 := Tryz.sizeOf3
  v3 := Tryz.zeroValue3
  t4 := Tryz.underlying4
  a4 := Tryz.isAgg4
  z4 := Tryz.sizeOf4
  v4 := Tryz.zeroValue4
  t5 := Tryz.underlying5
  a5 := Tryz.isAgg5
  z5 := Tryz.sizeOf5
  v5 := Tryz.zeroValue5
  t9 := Tryz.underlying9
  a9 := Tryz.isAgg9
  z9 := Tryz.sizeOf9
  v9 := Tryz.zeroValue9
  t22 := Tryz.underlying42
  a22 := Tryz.isAgg42
  z22 := Tryz.sizeOf42
  v22 := Tryz.zeroValue42
  t23 := Tryz.underlying42
  a23 := Tryz.isAgg42
  z23 := Tryz.sizeOf42
  v23 := Tryz.zeroValue42
  t25 := Tryz.underlying27
  a25 := Tryz.isAgg27
  z25 := Tryz.sizeOf27
  v25 := Tryz.zeroValue27
  t32 := Tryz.underlying159
  a32 := Tryz.isAgg159
  z32 := Tryz.sizeOf159
  v32 := Tryz.zeroValue159
  t35 := Tryz.underlying162
  a35 := Tryz.isAgg162
  z35 := Tryz.sizeOf162
  v35 := Tryz.zeroValue162
  t36 := Tryz.underlying163
  a36 := Tryz.isAgg163
  z36 := Tryz.sizeOf163
  v36 := Tryz.zeroValue163
  t41 := Tryz.underlying154
  a41 := Tryz.isAgg154
  z41 := Tryz.sizeOf154
  v41 := Tryz.zeroValue154
  t44 := Tryz.underlying170
  a44 := Tryz.isAgg170
  z44 := Tryz.sizeOf170
  v44 := Tryz.zeroValue170
  t46 := Tryz.underlying85
  a46 := Tryz.isAgg85
  z46 := Tryz.sizeOf85
  v46 := Tryz.zeroValue85
  t53 := Tryz.underlying175
  a53 := Tryz.isAgg175
  z53 := Tryz.sizeOf175
  v53 := Tryz.zeroValue175
  t57 := Tryz.underlying179
  a57 := Tryz.isAgg179
  z57 := Tryz.sizeOf179
  v57 := Tryz.zeroValue179
  t63 := Tryz.underlying182
  a63 := Tryz.isAgg182
  z63 := Tryz.sizeOf182
  v63 := Tryz.zeroValue182
  t64 := Tryz.underlying183
  a64 := Tryz.isAgg183
  z64 := Tryz.sizeOf183
  v64 := Tryz.zeroValue183 }
end Go.Proofs
namespace Go.Proofs.YtkkhpdkfploodaaGreatDoor
open Go.EG
theorem sortsI : SortsI Tryz.prog fn_slices_Sort_Sl_api_ID_api_ID := fun blk off cap zs w hH hb hs => AnyM.slices_Sort_int Tryz.laysSlgm5_f68 blk off cap zs w hH hb hs
end Go.Proofs.YtkkhpdkfploodaaGreatDoor
/- The text of a signature: the program. -/
namespace Go.Proofs.YtkkhpdkfploodaaGreatDoor
open Go.EG
attribute [local irreducible] CallK QCall Go.Calls
set_option linter.unusedSimpArgs false
set_option linter.unusedVariables false
set_option maxRecDepth 20000
set_option maxHeartbeats 4000000
theorem calls_ExportN (hs : SortsI Tryz.prog fn_slices_Sort_Sl_api_ID_api_ID) (b : Nat) (S : Sto) (hw : WF S) (id : Int) (hk : known S id) (key : Nat) (fp : List Nat) (w : World) (hR : StR w key fp b S) :
    Calls Tryz.prog fn_P_intern_Store_Export #[pS b,.int .i64 id] w fun e w' => ∃ v L1,e = .returned v ∧ R w fp L1 w' ∧ ∃ L a c fp',Rch S id L ∧ (0 < (xg S L).length → a ≠ none) ∧ v = .tuple #[.slice a (xg S L).length c,.nilIface] ∧ L1 = [packE key fp' (fS b S),.own 812 a (xg S L).length c ty_api_Rule 5 (rulsC (xg S L))] :=
  (calls_Export hs b S hw id hk key fp w hR).mono fun e w' ⟨v,L1,he,hR',L,a,c,fp',hL,hv,h1⟩ => by
    subst h1
    exact ⟨v,_,he,hR',L,a,c,fp',hL,fun h => own_ne hR'.tail (key := 812) rfl h,hv,rfl⟩
end Go.Proofs.YtkkhpdkfploodaaGreatDoor
/- Each rule of a signature is the signature of its text: the program. -/
namespace Go.Proofs.YtkkhpdkfploodaaGreatDoor
open Go.EG
attribute [local irreducible] CallK QCall Go.Calls
set_option linter.unusedSimpArgs false
set_option linter.unusedVariables false
set_option maxRecDepth 20000
set_option maxHeartbeats 4000000
structure PtG where
  i : Nat
  S : Sto
  f1 : List Nat
  f2 : List Nat
end Go.Proofs.YtkkhpdkfploodaaGreatDoor

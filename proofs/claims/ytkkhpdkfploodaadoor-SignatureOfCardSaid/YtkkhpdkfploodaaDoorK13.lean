/- The text of a grammar, by the reference: the program. -/
import Derived.Test.YtkkhpdkfploodaaDoorK5
import Derived.Test.YtkkhpdkfploodaaDoorK12
import Derived.Shelf.SlGeneric
import Derived.Ground.SlgmProg
import Derived.Shelf.SortM.Plain
import Derived.Test.YtkkhpdkfploodaaDoorProg
import Derived.Test.YtkkhpdkfploodaaDoorK10
import Derived.Test.YtkkhpdkfploodaaDoorK7
import Derived.Test.YtkkhpdkfploodaaDoorK11
namespace Go.Proofs.YtkkhpdkfploodaaDoor
open Go.EG
attribute [local irreducible] CallK QCall Go.Calls
set_option linter.unusedSimpArgs false
set_option linter.unusedVariables false
set_option maxRecDepth 20000
set_option maxHeartbeats 4000000

theorem Gr.tim {g : List Rul} {ms : List Tm} (h : Gr g ms) {i : Nat} (hi : i < g.length) : (g.getD i rul0).t ≤ 9223372036854775807 := by
  obtain ⟨hc, _, _⟩ := h.cases hi
  rcases h.ok i hi with ⟨e1, e2, e3, e4, _⟩ | ⟨e1, e2, e3, e4, e5, e6, e7⟩ | ⟨e1, e2, e3, e4, e5, e6⟩
  · omega
  · omega
  · rcases hc with ⟨k1, _⟩ | ⟨k1, _⟩ | ⟨k1, kb, p, k, p1, k2, pa, kt, ht, hs⟩
    · omega
    · omega
    · have h1 := (h.fit p (by omega)).1
      have e : mAt ms ((p : Int) + 1) = ms.getD p .nil := by
        unfold mAt
        rw [if_neg (by omega), show ((p : Int) + 1).toNat - 1 = p by omega]
      rw [e] at hs
      have := Nat.mul_le_mul_left k h1
      have hLM : LM = 1152921504606846976 := rfl
      omega

end Go.Proofs.YtkkhpdkfploodaaDoor
/- The library's sort of a row of IDs, laid at this program (written by the kit's tool for plain words). No condition. -/
namespace Go.Proofs
open Go.Shelf
def Tryd.laysSlgm5_f86_ren : Go.Shelf.Ren := ⟨fun | 5 => 86 | 8 => 102 | 7 => 101 | 19 => 121 | 20 => 122 | 10 => 112 | 11 => 113 | 12 => 114 | 13 => 115 | 14 => 116 | 15 => 117 | 16 => 118 | 17 => 119 | 18 => 120 | 30 => 124 | 31 => 125 | 32 => 126 | 33 => 127 | 34 => 128 | 35 => 129 | 40 => 131 | n => n, fun | 23 => 57 | 25 => 27 | 3 => 3 | 32 => 45 | 22 => 57 | 0 => 0 | 44 => 191 | 46 => 99 | 4 => 4 | 36 => 184 | 35 => 183 | 41 => 177 | 5 => 5 | 9 => 9 | 53 => 193 | 57 => 197 | 63 => 199 | 64 => 162 | n => n, fun | n => n⟩
theorem Tryd.laysSlgm5_f86 : Go.Proofs.SlLaysM.n5 Tryd.prog Tryd.laysSlgm5_f86_ren := {
  mixed := by kernel_rfl
  f5 := ⟨Tryd.f86.name, by decide, Tryd.func86.trans (congrArg some (by kernel_rfl))⟩
  f7 := ⟨Tryd.f101.name, by decide, Tryd.func101.trans (congrArg some (by kernel_rfl))⟩
  f8 := Tryd.func102.trans (congrArg some (by kernel_rfl))
  f10 := ⟨Tryd.f112.name, by decide, Tryd.func112.trans (congrArg some (by kernel_rfl))⟩
  f11 := ⟨Tryd.f113.name, by decide, Tryd.func113.trans (congrArg some (by kernel_rfl))⟩
  f12 := ⟨Tryd.f114.name, by decide, Tryd.func114.trans (congrArg some (by kernel_rfl))⟩
  f13 := ⟨Tryd.f115.name, by decide, Tryd.func115.trans (congrArg some (by kernel_rfl))⟩
  f14 := ⟨Tryd.f116.name, by decide, Tryd.func116.trans (congrArg some (by kernel_rfl))⟩
  f15 := ⟨Tryd.f117.name, by decide, Tryd.func117.trans (congrArg some (by kernel_rfl))⟩
  f16 := ⟨Tryd.f118.name, by decide, Tryd.func118.trans (congrArg some (by kernel_rfl))⟩
  f17 := ⟨Tryd.f119.name, by decide, Tryd.func119.trans (congrArg some (by kernel_rfl))⟩
  f18 := ⟨Tryd.f120.name, by decide, Tryd.func120.trans (congrArg some (by kernel_rfl))⟩
  f19 := Tryd.func121.trans (congrArg some (by kernel_rfl))
  f20 := Tryd.func122.trans (congrArg some (by kernel_rfl))
  f30 := ⟨Tryd.f124.name, by decide, Tryd.func124.trans (congrArg some (by kernel_rfl))⟩
  f31 := Tryd.func125.trans (congrArg some (by kernel_rfl))
  f32 := Tryd.func126.trans (congrArg some (by kernel_rfl))
  f33 := ⟨Tryd.f127.name, by decide, Tryd.func127.trans (congrArg some (by kernel_rfl))⟩
  f34 := ⟨Tryd.f128.name, by decide, Tryd.func128.trans (congrArg some (by kernel_rfl))⟩
  f35 := ⟨Tryd.f129.name, by decide, Tryd.func129.trans (congrArg some (by kernel_rfl))⟩
  f40 := ⟨Tryd.f131.name, by decide, Tryd.func131.trans (congrArg some (by kernel_rfl))⟩
  t0 := Tryd.underlying0
  a0 := Tryd.isAgg0
  z0 := Tryd.sizeOf0
  v0 := Tryd.zeroValue0
  t3 := Tryd.underlying3
  a3 := Tryd.isAgg3
  z3 := Tryd.sizeOf3
  v3 := Tryd.zeroValue3
  t4 := Tryd.underlying4
  a4 := Tryd.isAgg4
  z4 := Tryd.sizeOf4
  v4 := Tryd.zeroValue4
  t5 := Tryd.underlying5
  a5 := Tryd.isAgg5
  z5 := Tryd.sizeOf5
  v5 := Tryd.zeroValue5
  t9 := Tryd.underlying9
  a9 := Tryd.isAgg9
  z9 := Tryd.sizeOf9
  v9 := Tryd.zeroValue9
  t22 := Tryd.underlying57
  a22 := Tryd.isAgg57
  z22 := Tryd.sizeOf57
  v22 := Tryd.zeroValue57
  t23 := Tryd.underlying57
  a23 := Tryd.isAgg57
  z23 := Tryd.sizeOf57
  v23 := Tryd.zeroValue57
  t25 := Tryd.underlying27
  a25 := Tryd.isAgg27
  z25 := Tryd.sizeOf27
  v25 := Tryd.zeroValue27
  t32 := Tryd.underlying45
  a32 := Tryd.isAgg45
  z32 := Tryd.sizeOf45
  v32 := Tryd.zeroValue45
  t35 := Tryd.underlying183
  a35 := Tryd.isAgg183
  z35 := Tryd.sizeOf183
  v35 := Tryd.zeroValue183
  t36 := Tryd.underlying184
  a36 := Tryd.isAgg184
  z36 := Tryd.sizeOf184
  v36 := Tryd.zeroValue184
  t41 := Tryd.underlying177
  a41 := Tryd.isAgg177
  z41 := Tryd.sizeOf177
  v41 := Tryd.zeroValue177
  t44 := Tryd.underlying191
  a44 := Tryd.isAgg191
  z44 := Tryd.sizeOf191
  v44 := Tryd.zeroValue191
  t46 := Tryd.underlying99
  a46 := Tryd.isAgg99
  z46 := Tryd.sizeOf99
  v46 := Tryd.zeroValue99
  t53 := Tryd.underlying193
  a53 := Tryd.isAgg193
  z53 := Tryd.sizeOf193
  v53 := Tryd.zeroValue193
  t57 := Tryd.underlying197
  a57 := Tryd.isAgg197
  z57 := Tryd.sizeOf197
  v57 := Tryd.zeroValue197
  t63 := Tryd.underlying199
  a63 := Tryd.isAgg199
  z63 := Tryd.sizeOf199
  v63 := Tryd.zeroValue199
  t64 := Tryd.underlying162
  a64 := Tryd.isAgg162
  z64 := Tryd.sizeOf162
  v64 := Tryd.zeroValue162 }
end Go.Proofs
namespace Go.Proofs.YtkkhpdkfploodaaDoor
open Go.EG
theorem sortsI : SortsI Tryd.prog fn_slices_Sort_Sl_api_ID_api_ID := fun blk off cap zs w hH hb hs => AnyM.slices_Sort_int Tryd.laysSlgm5_f86 blk off cap zs w hH hb hs
end Go.Proofs.YtkkhpdkfploodaaDoor
/- The text of a signature: the program. -/
namespace Go.Proofs.YtkkhpdkfploodaaDoor
open Go.EG
attribute [local irreducible] CallK QCall Go.Calls
set_option linter.unusedSimpArgs false
set_option linter.unusedVariables false
set_option maxRecDepth 20000
set_option maxHeartbeats 4000000

theorem calls_ExportN (hs : SortsI Tryd.prog fn_slices_Sort_Sl_api_ID_api_ID) (b : Nat) (S : Sto) (hw : WF S) (id : Int) (hk : known S id) (key : Nat) (fp : List Nat) (w : World) (hR : StR w key fp b S) :
    Calls Tryd.prog fn_P_intern_Store_Export #[pS b, .int .i64 id] w fun e w' => ∃ v L1, e = .returned v ∧ R w fp L1 w' ∧ ∃ L a c fp', Rch S id L ∧ (0 < (xg S L).length → a ≠ none) ∧ v = .tuple #[.slice a (xg S L).length c, .nilIface] ∧ L1 = [packE key fp' (fS b S), .own 812 a (xg S L).length c ty_api_Rule 5 (rulsC (xg S L))] :=
  (calls_Export hs b S hw id hk key fp w hR).mono fun e w' ⟨v, L1, he, hR', L, a, c, fp', hL, hv, h1⟩ => by
    subst h1
    exact ⟨v, _, he, hR', L, a, c, fp', hL, fun h => own_ne hR'.tail (key := 812) rfl h, hv, rfl⟩
end Go.Proofs.YtkkhpdkfploodaaDoor
/- Each rule of a signature is the signature of its text: the program. -/
namespace Go.Proofs.YtkkhpdkfploodaaDoor
open Go.EG
attribute [local irreducible] CallK QCall Go.Calls
set_option linter.unusedSimpArgs false
set_option linter.unusedVariables false
set_option maxRecDepth 20000
set_option maxHeartbeats 4000000

structure PtG where
  i : Nat
  S : Sto
  f1 : List Nat
  f2 : List Nat
end Go.Proofs.YtkkhpdkfploodaaDoor

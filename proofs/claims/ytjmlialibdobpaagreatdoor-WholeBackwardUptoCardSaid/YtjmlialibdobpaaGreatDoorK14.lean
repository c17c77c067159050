/- The small forms of functions of the program, with the equations that say so: written by a program (irtool.py). No condition. -/
import Derived.Test.YtjmlialibdobpaaGreatDoorK13
import Derived.Test.YtjmlialibdobpaaGreatDoorProg
set_option linter.unusedSectionVars false
set_option linter.unusedVariables false
set_option linter.unusedSimpArgs false
namespace Go.Proofs.YtjmlialibdobpaaGreatDoor
open Go.EG
def zsT:C :=
 (.s [.o 2 (.mv (.c (.bool false)))] (.s [.o 8 (.mkm 8 .ptr none),.v 9 0,.u (.mup .ptr 8 9 (.c (.bool true))),.v 10 8,.v 3 10] (.s [.v 11 0,.o 12 (.bsl 12 qR 1 1 [.pointer none] [(0,(1,11))]),.v 4 12] (.seq (.blk 0 (.loop (.seq (.s [.v 13 4,.o 14 (.lens 13),.o 15 (.cmp .gtr .i64 14 (.k 0))] (.cond 15 .skip (.exit 0))) (.blk 1 (.s [.v 16 4,.v 17 4,.o 18 (.lens 17),.o 19 (.ar .sub .i64 18 (.k 1)),.o 20 (.ia 1 16 19),.o 21 (.ld .ptr 20),.v 5 21] (.s [.v 22 4,.v 23 4,.o 24 (.lens 23),.o 25 (.ar .sub .i64 24 (.k 1)),.o 26 (.slo 1 22 (some 25)),.v 4 26] (.seq (.s [.v 27 5,.o 28 (.call yN [27]),.o 29 (.not 28)] (.cond 29 (.s [.o 2 (.mv (.c (.bool false)))] .ret) .skip)) (.s [.v 30 5,.o 31 (.nil 30),.o 32 (.fa 7 31),.o 33 (.ld .slc 32),.o 34 (.lens 33),.o 35 (.mv (.k 0))] (.blk 2 (.loop (.s [.o 36 (.cmp .lss .i64 35 34)] (.seq (.cond 36 .skip (.exit 2)) (.seq (.blk 3 (.s [.v 37 35,.v 6 37] (.s [.v 38 5,.o 39 (.nil 38),.o 40 (.fa 7 39),.o 41 (.ld .slc 40),.v 42 6,.o 43 (.ia 8 41 42),.v 7 43] (.s [.v 44 3,.v 45 7,.o 46 (.lku .ptr false (.bool false) 44 45),.o 47 (.not 46)] (.cond 47 (.s [.v 48 3,.v 49 7,.u (.mup .ptr 48 49 (.c (.bool true)))] (.reg [.v 50 4,.v 51 7,.o 52 (.bsl 52 qR 1 1 [.pointer none] [(0,(1,51))]),.o 53 (.app 53 qR 1 8 50 52),.v 4 53])) .skip))))) (.reg [.o 54 (.ar .add .i64 35 (.k 1)),.v 35 54])))))))))))))) (.s [.o 2 (.mv (.c (.bool true)))] .ret)))))
set_option maxRecDepth 100000 in
set_option maxHeartbeats 4000000 in
theorem zsU:zt Tryz.prog vE [26] []=some (55,[(.t 2)],zsT):=by kernel_rfl
end Go.Proofs.YtjmlialibdobpaaGreatDoor

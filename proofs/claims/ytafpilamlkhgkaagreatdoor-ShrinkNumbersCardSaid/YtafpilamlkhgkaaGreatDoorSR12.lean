/- Known calls of the program, part 12: each is run by the kernel. -/
import Derived.Test.YtafpilamlkhgkaaGreatDoorSR4
import Derived.Test.YtafpilamlkhgkaaGreatDoorSR8
import Derived.Test.YtafpilamlkhgkaaGreatDoorSR11
import Derived.Test.YtafpilamlkhgkaaGreatDoorSC
set_option linter.all false
set_option maxRecDepth 100000
namespace Ae
open Go Go.Proofs
noncomputable def m82 : Memo := ⟨[.v (.sl 14 0 2 (.k 2)),.v (.sl 15 0 2 (.u 4))],[z,z,z,z,z,z,z,z,z,z,z,z,z,z,B14,B27],[.arg,.arg],.v (.t [.sl 16 0 148 (.u 1),i 0]),[],[B23]⟩
theorem m82_ok : MemoOk Tryz.prog 14 9 (unM m82) := memo_known prog_ok (base := (putB (K21 (K81 putE)))) (dprim := dprims) (mask := maskOf) (d := 400) (l := []) (putB_ok (K21_ok (K81_ok putE_ok))) dprims_ok hl_nil 0 9 (by kernel_rfl)
noncomputable def m83 : Memo := ⟨[.v (.a [.sl 14 0 1 (.u 2),.sl 15 0 2 (.u 2)]),.v (.sl 16 0 49152 (.u 1)),.v (.sl 17 0 2 (.k 2))],[z,z,z,z,z,z,z,z,z,z,z,z,z,z,.ro 134 [(0,[u 1048576,u 8388608])] [] 2 true,B36,B1,B14],[.arg,.arg,.arg,.arg],.v (.t [.sl 18 0 148 (.u 1),.i0]),[],[B23]⟩
noncomputable def t83 : List (Nat × List Memo) := [(71, [m59]), (74, [m80]), (9, [m82])]
theorem t83_ok : ∀ e ∈ t83, ∀ m ∈ e.2, MemoOk Tryz.prog 14 e.1 (unM m) := (hl_cons (hm_cons m59_ok hm_nil) (hl_cons (hm_cons m80_ok hm_nil) (hl_cons (hm_cons m82_ok hm_nil) hl_nil)))
theorem m83_ok : MemoOk Tryz.prog 14 27 (unM m83) := memo_known prog_ok (base := prims0) (dprim := dprims) (mask := maskOf) (d := 400) (l := t83) prims0_ok dprims_ok t83_ok 8 27 (by kernel_rfl)
noncomputable def m84 : Memo := ⟨[.v (.sl 14 0 148 (.u 1))],[z,z,z,z,z,z,z,z,z,z,z,z,z,z,B23],[.arg],.v (.t [.sl 15 0 2 (.u 7),.sl 16 0 2 (.u 4),.i0]),[],[B15,B27]⟩
theorem m84_ok : MemoOk Tryz.prog 14 14 (unM m84) := memo_known prog_ok (base := prims0) (dprim := dprims) (mask := maskOf) (d := 400) (l := []) prims0_ok dprims_ok hl_nil 0 14 (by kernel_rfl)
end Ae

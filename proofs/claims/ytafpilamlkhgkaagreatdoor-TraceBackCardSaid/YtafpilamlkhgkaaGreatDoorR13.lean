/- Known calls of the program, part 13: each is run by the kernel. -/
import Derived.Test.YtafpilamlkhgkaaGreatDoorR3
import Derived.Test.YtafpilamlkhgkaaGreatDoorR8
import Derived.Test.YtafpilamlkhgkaaGreatDoorR11
import Derived.Test.YtafpilamlkhgkaaGreatDoorR12
import Derived.Test.YtafpilamlkhgkaaGreatDoorC
set_option linter.all false
set_option maxRecDepth 100000
namespace Ae
open Go Go.Proofs
noncomputable def m89 : Memo := ⟨[.v (.a [.sl 14 0 1 (.u 2),.sl 15 0 2 (.u 2)]),.v (.sl 16 0 49152 (.u 1)),.v (.sl 17 0 148 (.u 1))],[z,z,z,z,z,z,z,z,z,z,z,z,z,z,.ro 134 [(0,[u 1048576,u 8388608])] [] 2 true,B33,B1,B20],[.arg,.arg,.arg,.arg],.v (.t [i 1,.i0]),[],[]⟩
noncomputable def t89 : List (Nat × List Memo) := [(71, [m59]), (74, [m80]), (14, [m88])]
theorem t89_ok : ∀ e ∈ t89, ∀ m ∈ e.2, MemoOk Tryz.prog 14 e.1 (unM m) := (hl_cons (hm_cons m59_ok hm_nil) (hl_cons (hm_cons m80_ok hm_nil) (hl_cons (hm_cons m88_ok hm_nil) hl_nil)))
theorem m89_ok : MemoOk Tryz.prog 14 28 (unM m89) := memo_known prog_ok (base := prims0) (dprim := dprims) (mask := maskOf) (d := 400) (l := t89) prims0_ok dprims_ok t89_ok 8 28 (by kernel_rfl)
noncomputable def m90 : Memo := ⟨[],[z,z,B5,B7,.oc 811 [(9,[1,1,1,1,1]),(32,[1])] 0 256 false,z,z,z,.oc 878 [(6,[2,3,4,5,5,6,6,7])] 1 14 false,z,z,z,z,z],[],.v (.b true),[],[]⟩
noncomputable def t90 : List (Nat × List Memo) := [(26, [m7]), (24, [m58]), (27, [m83]), (14, [m84]), (28, [m85, m89]), (9, [m87])]
theorem t90_ok : ∀ e ∈ t90, ∀ m ∈ e.2, MemoOk Tryz.prog 14 e.1 (unM m) := (hl_cons (hm_cons m7_ok hm_nil) (hl_cons (hm_cons m58_ok hm_nil) (hl_cons (hm_cons m83_ok hm_nil) (hl_cons (hm_cons m84_ok hm_nil) (hl_cons (hm_cons m85_ok (hm_cons m89_ok hm_nil)) (hl_cons (hm_cons m87_ok hm_nil) hl_nil))))))
theorem m90_ok : MemoOk Tryz.prog 14 6 (unM m90) := memo_known prog_ok (base := prims0) (dprim := dprims) (mask := maskOf) (d := 400) (l := t90) prims0_ok dprims_ok t90_ok 8 6 (by kernel_rfl)
end Ae

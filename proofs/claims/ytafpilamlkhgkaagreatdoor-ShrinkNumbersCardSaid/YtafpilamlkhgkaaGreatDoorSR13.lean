/- Known calls of the program, part 13: each is run by the kernel. -/
import Derived.Test.YtafpilamlkhgkaaGreatDoorSR4
import Derived.Test.YtafpilamlkhgkaaGreatDoorSR8
import Derived.Test.YtafpilamlkhgkaaGreatDoorSR11
import Derived.Test.YtafpilamlkhgkaaGreatDoorSR12
import Derived.Test.YtafpilamlkhgkaaGreatDoorSC
set_option linter.all false
set_option maxRecDepth 100000
namespace Ae
open Go Go.Proofs
noncomputable def m85 : Memo := ⟨[.v (.a [.sl 14 0 1 (.u 2),.sl 15 0 2 (.u 2)]),.v (.sl 16 0 49152 (.u 1)),.v (.sl 17 0 148 (.u 1))],[z,z,z,z,z,z,z,z,z,z,z,z,z,z,.ro 134 [(0,[u 1048576,u 8388608])] [] 2 true,B36,B1,B23],[.arg,.arg,.arg,.arg],.v (.t [i 2,.i0]),[],[]⟩
noncomputable def t85 : List (Nat × List Memo) := [(71, [m59]), (74, [m80]), (14, [m84])]
theorem t85_ok : ∀ e ∈ t85, ∀ m ∈ e.2, MemoOk Tryz.prog 14 e.1 (unM m) := (hl_cons (hm_cons m59_ok hm_nil) (hl_cons (hm_cons m80_ok hm_nil) (hl_cons (hm_cons m84_ok hm_nil) hl_nil)))
theorem m85_ok : MemoOk Tryz.prog 14 28 (unM m85) := memo_known prog_ok (base := prims0) (dprim := dprims) (mask := maskOf) (d := 400) (l := t85) prims0_ok dprims_ok t85_ok 8 28 (by kernel_rfl)
noncomputable def m86 : Memo := ⟨[.v (.sl0),.v (u 7)],[z,z,z,z,z,z,z,z,z,z,z,z,z,z],[],.v (.sl 14 0 8 (.k 8)),[],[.oc 5 [(0,[7])] 0 8 false]⟩
theorem m86_ok : MemoOk Tryz.prog 14 105 (unM m86) := memo_known prog_ok (base := prims0) (dprim := dprims) (mask := maskOf) (d := 400) (l := []) prims0_ok dprims_ok hl_nil 0 105 (by kernel_rfl)
noncomputable def K86 (fb : Pf) : Pf := konstK [.sl0, .n .u64 7] 14 (.sl 14 0 8 (.k 8)) [.row 5 (.n (some (.n .u8 7)) .e .e) [.n .u8 0] 8 false] fb
theorem K86_ok {fb : Pf} (h : PfOk Tryz.prog 105 fb) : PfOk Tryz.prog 105 (K86 fb) := fun cx h1 h2 => konstK_ok (m := m86) (by rw [h1, h2]; exact m86_ok) (h cx h1 h2) rfl rfl rfl rfl rfl (by kernel_rfl)
noncomputable def m87 : Memo := ⟨[.v (.sl 14 0 2 (.u 7)),.v (.sl 15 0 2 (.u 4))],[z,z,z,z,z,z,z,z,z,z,z,z,z,z,B15,B28],[.arg,.arg],.v (.t [.sl 16 0 148 (.u 1),i 0]),[],[B21]⟩
theorem m87_ok : MemoOk Tryz.prog 14 9 (unM m87) := memo_known prog_ok (base := (putB (K21 (K81 (K86 putE))))) (dprim := dprims) (mask := maskOf) (d := 400) (l := []) (putB_ok (K21_ok (K81_ok (K86_ok putE_ok)))) dprims_ok hl_nil 0 9 (by kernel_rfl)
noncomputable def m88 : Memo := ⟨[.v (.sl 14 0 148 (.u 1))],[z,z,z,z,z,z,z,z,z,z,z,z,z,z,B21],[.arg],.v (.t [.sl 15 0 2 (.u 7),.sl 16 0 2 (.u 4),.i0]),[],[B15,B28]⟩
theorem m88_ok : MemoOk Tryz.prog 14 14 (unM m88) := memo_known prog_ok (base := prims0) (dprim := dprims) (mask := maskOf) (d := 400) (l := []) prims0_ok dprims_ok hl_nil 0 14 (by kernel_rfl)
end Ae

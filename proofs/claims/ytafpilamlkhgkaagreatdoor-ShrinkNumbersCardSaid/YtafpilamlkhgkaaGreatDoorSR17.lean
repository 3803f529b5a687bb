/- Known calls of the program, part 17: each is run by the kernel. -/
import Derived.Test.YtafpilamlkhgkaaGreatDoorSR9
import Derived.Test.YtafpilamlkhgkaaGreatDoorSR10
import Derived.Test.YtafpilamlkhgkaaGreatDoorSR15
import Derived.Test.YtafpilamlkhgkaaGreatDoorSR16
import Derived.Test.YtafpilamlkhgkaaGreatDoorSC
set_option linter.all false
set_option maxRecDepth 100000
namespace Ae
open Go Go.Proofs
noncomputable def m96 : Memo := ⟨[.v (.sl 14 0 49152 (.u 1))],[z,z,z,z,z,z,z,z,z,z,z,z,z,z,B1],[.arg],.v (.t [.a [i 2,i 2,.sl 15 0 1 (.u 1),.x],.i0]),[],[.ro 3 [(0,[i 0])] [] 1 true]⟩
noncomputable def t96 : List (Nat × List Memo) := [(118, [m71]), (72, [m72]), (244, [m93, m94, m95])]
theorem t96_ok : ∀ e ∈ t96, ∀ m ∈ e.2, MemoOk Tryz.prog 14 e.1 (unM m) := (hl_cons (hm_cons m71_ok hm_nil) (hl_cons (hm_cons m72_ok hm_nil) (hl_cons (hm_cons m93_ok (hm_cons m94_ok (hm_cons m95_ok hm_nil))) hl_nil)))
theorem m96_ok : MemoOk Tryz.prog 14 73 (unM m96) := memo_facts prog_ok [(0, 1), (0, 2), (1, 0), (2, 0), (3, 0)] (base := prims0) (dprim := dprims) (mask := maskOf) (d := 400) (l := t96) prims0_ok dprims_ok t96_ok 8 (by kernel_rfl)
end Ae

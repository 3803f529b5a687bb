/- Known calls of the program, part 6: each is run by the kernel. -/
import Derived.Test.YtppfndgghkfkhaaGreatDoorR4
import Derived.Test.YtppfndgghkfkhaaGreatDoorR5
import Derived.Test.YtppfndgghkfkhaaGreatDoorC
set_option linter.all false
set_option maxRecDepth 100000
namespace Ae
open Go Go.Proofs
noncomputable def m51 : Memo := ⟨[.sp 512 (u 0) [(0,u 1122305)]],[z,z,z,z,z,z,z,z,z,z,z,z,z,z],[],.v (.sl 14 0 4096 (.u 1)),[],[.oc 5 [(0,[1,32,17])] 0 4096 true]⟩
theorem m51_ok : MemoOk Tryz.prog 14 420 (unM m51) := memo_known prog_ok (base := (putB (K32 (K50 putE)))) (dprim := dprims) (mask := maskOf) (d := 400) (l := []) (putB_ok (K32_ok (K50_ok putE_ok))) dprims_ok hl_nil 0 420 (by kernel_rfl)
noncomputable def m52 : Memo := ⟨[.v (.sl0),.v (u 1052677)],[z,z,z,z,z,z,z,z,z,z,z,z,z,z],[],.v (.sl 14 0 8 (.k 8)),[],[.oc 5 [(0,[5,16,16])] 0 8 false]⟩
theorem m52_ok : MemoOk Tryz.prog 14 423 (unM m52) := memo_known prog_ok (base := prims0) (dprim := dprims) (mask := maskOf) (d := 400) (l := []) prims0_ok dprims_ok hl_nil 0 423 (by kernel_rfl)
noncomputable def K52 (fb : Pf) : Pf := konstK [.sl0, .n .u64 1052677] 14 (.sl 14 0 8 (.k 8)) [.row 5 (.n (some (.n .u8 5)) (.n (some (.n .u8 16)) .e .e) (.n (some (.n .u8 16)) .e .e)) [.n .u8 0] 8 false] fb
theorem K52_ok {fb : Pf} (h : PfOk Tryz.prog 423 fb) : PfOk Tryz.prog 423 (K52 fb) := fun cx h1 h2 => konstK_ok (m := m52) (by rw [h1, h2]; exact m52_ok) (h cx h1 h2) rfl rfl rfl rfl rfl (by kernel_rfl)
noncomputable def m53 : Memo := ⟨[.v (.sl0),.v (u 1081347)],[z,z,z,z,z,z,z,z,z,z,z,z,z,z],[],.v (.sl 14 0 8 (.k 8)),[],[.oc 5 [(0,[3,128,16])] 0 8 false]⟩
theorem m53_ok : MemoOk Tryz.prog 14 423 (unM m53) := memo_known prog_ok (base := prims0) (dprim := dprims) (mask := maskOf) (d := 400) (l := []) prims0_ok dprims_ok hl_nil 0 423 (by kernel_rfl)
noncomputable def K53 (fb : Pf) : Pf := konstK [.sl0, .n .u64 1081347] 14 (.sl 14 0 8 (.k 8)) [.row 5 (.n (some (.n .u8 3)) (.n (some (.n .u8 128)) .e .e) (.n (some (.n .u8 16)) .e .e)) [.n .u8 0] 8 false] fb
theorem K53_ok {fb : Pf} (h : PfOk Tryz.prog 423 fb) : PfOk Tryz.prog 423 (K53 fb) := fun cx h1 h2 => konstK_ok (m := m53) (by rw [h1, h2]; exact m53_ok) (h cx h1 h2) rfl rfl rfl rfl rfl (by kernel_rfl)
noncomputable def m54 : Memo := ⟨[.v (.sl0),.v (u 1085443)],[z,z,z,z,z,z,z,z,z,z,z,z,z,z],[],.v (.sl 14 0 8 (.k 8)),[],[.oc 5 [(0,[3,144,16])] 0 8 false]⟩
theorem m54_ok : MemoOk Tryz.prog 14 423 (unM m54) := memo_known prog_ok (base := prims0) (dprim := dprims) (mask := maskOf) (d := 400) (l := []) prims0_ok dprims_ok hl_nil 0 423 (by kernel_rfl)
noncomputable def K54 (fb : Pf) : Pf := konstK [.sl0, .n .u64 1085443] 14 (.sl 14 0 8 (.k 8)) [.row 5 (.n (some (.n .u8 3)) (.n (some (.n .u8 144)) .e .e) (.n (some (.n .u8 16)) .e .e)) [.n .u8 0] 8 false] fb
theorem K54_ok {fb : Pf} (h : PfOk Tryz.prog 423 fb) : PfOk Tryz.prog 423 (K54 fb) := fun cx h1 h2 => konstK_ok (m := m54) (by rw [h1, h2]; exact m54_ok) (h cx h1 h2) rfl rfl rfl rfl rfl (by kernel_rfl)
noncomputable def m55 : Memo := ⟨[.sp 512 (u 0) [(1,u 1052677),(16,u 1081347),(17,u 1085443)]],[z,z,z,z,z,z,z,z,z,z,z,z,z,z],[],.v (.sl 14 0 4096 (.u 1)),[],[B68]⟩
theorem m55_ok : MemoOk Tryz.prog 14 420 (unM m55) := memo_known prog_ok (base := (putB (K32 (K52 (K53 (K54 putE)))))) (dprim := dprims) (mask := maskOf) (d := 400) (l := []) (putB_ok (K32_ok (K52_ok (K53_ok (K54_ok putE_ok))))) dprims_ok hl_nil 0 420 (by kernel_rfl)
noncomputable def m56 : Memo := ⟨[.v (.sl0),.v (u 1130497)],[z,z,z,z,z,z,z,z,z,z,z,z,z,z],[],.v (.sl 14 0 8 (.k 8)),[],[.oc 5 [(0,[1,64,17])] 0 8 false]⟩
theorem m56_ok : MemoOk Tryz.prog 14 423 (unM m56) := memo_known prog_ok (base := prims0) (dprim := dprims) (mask := maskOf) (d := 400) (l := []) prims0_ok dprims_ok hl_nil 0 423 (by kernel_rfl)
noncomputable def K56 (fb : Pf) : Pf := konstK [.sl0, .n .u64 1130497] 14 (.sl 14 0 8 (.k 8)) [.row 5 (.n (some (.n .u8 1)) (.n (some (.n .u8 64)) .e .e) (.n (some (.n .u8 17)) .e .e)) [.n .u8 0] 8 false] fb
theorem K56_ok {fb : Pf} (h : PfOk Tryz.prog 423 fb) : PfOk Tryz.prog 423 (K56 fb) := fun cx h1 h2 => konstK_ok (m := m56) (by rw [h1, h2]; exact m56_ok) (h cx h1 h2) rfl rfl rfl rfl rfl (by kernel_rfl)
noncomputable def m57 : Memo := ⟨[.sp 512 (u 0) [(0,u 1130497)]],[z,z,z,z,z,z,z,z,z,z,z,z,z,z],[],.v (.sl 14 0 4096 (.u 1)),[],[.oc 5 [(0,[1,64,17])] 0 4096 true]⟩
theorem m57_ok : MemoOk Tryz.prog 14 420 (unM m57) := memo_known prog_ok (base := (putB (K32 (K56 putE)))) (dprim := dprims) (mask := maskOf) (d := 400) (l := []) (putB_ok (K32_ok (K56_ok putE_ok))) dprims_ok hl_nil 0 420 (by kernel_rfl)
noncomputable def m58 : Memo := ⟨[.v (.sl0),.v (u 1134593)],[z,z,z,z,z,z,z,z,z,z,z,z,z,z],[],.v (.sl 14 0 8 (.k 8)),[],[.oc 5 [(0,[1,80,17])] 0 8 false]⟩
theorem m58_ok : MemoOk Tryz.prog 14 423 (unM m58) := memo_known prog_ok (base := prims0) (dprim := dprims) (mask := maskOf) (d := 400) (l := []) prims0_ok dprims_ok hl_nil 0 423 (by kernel_rfl)
noncomputable def K58 (fb : Pf) : Pf := konstK [.sl0, .n .u64 1134593] 14 (.sl 14 0 8 (.k 8)) [.row 5 (.n (some (.n .u8 1)) (.n (some (.n .u8 80)) .e .e) (.n (some (.n .u8 17)) .e .e)) [.n .u8 0] 8 false] fb
theorem K58_ok {fb : Pf} (h : PfOk Tryz.prog 423 fb) : PfOk Tryz.prog 423 (K58 fb) := fun cx h1 h2 => konstK_ok (m := m58) (by rw [h1, h2]; exact m58_ok) (h cx h1 h2) rfl rfl rfl rfl rfl (by kernel_rfl)
noncomputable def m59 : Memo := ⟨[.sp 512 (u 0) [(0,u 1134593)]],[z,z,z,z,z,z,z,z,z,z,z,z,z,z],[],.v (.sl 14 0 4096 (.u 1)),[],[.oc 5 [(0,[1,80,17])] 0 4096 true]⟩
theorem m59_ok : MemoOk Tryz.prog 14 420 (unM m59) := memo_known prog_ok (base := (putB (K32 (K58 putE)))) (dprim := dprims) (mask := maskOf) (d := 400) (l := []) (putB_ok (K32_ok (K58_ok putE_ok))) dprims_ok hl_nil 0 420 (by kernel_rfl)
noncomputable def m60 : Memo := ⟨[.v (.sl0),.v (u 1056771)],[z,z,z,z,z,z,z,z,z,z,z,z,z,z],[],.v (.sl 14 0 8 (.k 8)),[],[.oc 5 [(0,[3,32,16])] 0 8 false]⟩
theorem m60_ok : MemoOk Tryz.prog 14 423 (unM m60) := memo_known prog_ok (base := prims0) (dprim := dprims) (mask := maskOf) (d := 400) (l := []) prims0_ok dprims_ok hl_nil 0 423 (by kernel_rfl)
noncomputable def K60 (fb : Pf) : Pf := konstK [.sl0, .n .u64 1056771] 14 (.sl 14 0 8 (.k 8)) [.row 5 (.n (some (.n .u8 3)) (.n (some (.n .u8 32)) .e .e) (.n (some (.n .u8 16)) .e .e)) [.n .u8 0] 8 false] fb
theorem K60_ok {fb : Pf} (h : PfOk Tryz.prog 423 fb) : PfOk Tryz.prog 423 (K60 fb) := fun cx h1 h2 => konstK_ok (m := m60) (by rw [h1, h2]; exact m60_ok) (h cx h1 h2) rfl rfl rfl rfl rfl (by kernel_rfl)
noncomputable def m61 : Memo := ⟨[.v (.sl0),.v (u 1060867)],[z,z,z,z,z,z,z,z,z,z,z,z,z,z],[],.v (.sl 14 0 8 (.k 8)),[],[.oc 5 [(0,[3,48,16])] 0 8 false]⟩
theorem m61_ok : MemoOk Tryz.prog 14 423 (unM m61) := memo_known prog_ok (base := prims0) (dprim := dprims) (mask := maskOf) (d := 400) (l := []) prims0_ok dprims_ok hl_nil 0 423 (by kernel_rfl)
noncomputable def K61 (fb : Pf) : Pf := konstK [.sl0, .n .u64 1060867] 14 (.sl 14 0 8 (.k 8)) [.row 5 (.n (some (.n .u8 3)) (.n (some (.n .u8 48)) .e .e) (.n (some (.n .u8 16)) .e .e)) [.n .u8 0] 8 false] fb
theorem K61_ok {fb : Pf} (h : PfOk Tryz.prog 423 fb) : PfOk Tryz.prog 423 (K61 fb) := fun cx h1 h2 => konstK_ok (m := m61) (by rw [h1, h2]; exact m61_ok) (h cx h1 h2) rfl rfl rfl rfl rfl (by kernel_rfl)
noncomputable def m62 : Memo := ⟨[.v (.sl0),.v (u 1064963)],[z,z,z,z,z,z,z,z,z,z,z,z,z,z],[],.v (.sl 14 0 8 (.k 8)),[],[.oc 5 [(0,[3,64,16])] 0 8 false]⟩
theorem m62_ok : MemoOk Tryz.prog 14 423 (unM m62) := memo_known prog_ok (base := prims0) (dprim := dprims) (mask := maskOf) (d := 400) (l := []) prims0_ok dprims_ok hl_nil 0 423 (by kernel_rfl)
noncomputable def K62 (fb : Pf) : Pf := konstK [.sl0, .n .u64 1064963] 14 (.sl 14 0 8 (.k 8)) [.row 5 (.n (some (.n .u8 3)) (.n (some (.n .u8 64)) .e .e) (.n (some (.n .u8 16)) .e .e)) [.n .u8 0] 8 false] fb
theorem K62_ok {fb : Pf} (h : PfOk Tryz.prog 423 fb) : PfOk Tryz.prog 423 (K62 fb) := fun cx h1 h2 => konstK_ok (m := m62) (by rw [h1, h2]; exact m62_ok) (h cx h1 h2) rfl rfl rfl rfl rfl (by kernel_rfl)
noncomputable def m63 : Memo := ⟨[.v (.sl0),.v (u 1069059)],[z,z,z,z,z,z,z,z,z,z,z,z,z,z],[],.v (.sl 14 0 8 (.k 8)),[],[.oc 5 [(0,[3,80,16])] 0 8 false]⟩
theorem m63_ok : MemoOk Tryz.prog 14 423 (unM m63) := memo_known prog_ok (base := prims0) (dprim := dprims) (mask := maskOf) (d := 400) (l := []) prims0_ok dprims_ok hl_nil 0 423 (by kernel_rfl)
noncomputable def K63 (fb : Pf) : Pf := konstK [.sl0, .n .u64 1069059] 14 (.sl 14 0 8 (.k 8)) [.row 5 (.n (some (.n .u8 3)) (.n (some (.n .u8 80)) .e .e) (.n (some (.n .u8 16)) .e .e)) [.n .u8 0] 8 false] fb
theorem K63_ok {fb : Pf} (h : PfOk Tryz.prog 423 fb) : PfOk Tryz.prog 423 (K63 fb) := fun cx h1 h2 => konstK_ok (m := m63) (by rw [h1, h2]; exact m63_ok) (h cx h1 h2) rfl rfl rfl rfl rfl (by kernel_rfl)
noncomputable def m64 : Memo := ⟨[.sp 512 (u 0) [(0,u 1056771),(1,u 1060867),(2,u 1064963),(3,u 1069059)]],[z,z,z,z,z,z,z,z,z,z,z,z,z,z],[],.v (.sl 14 0 4096 (.u 1)),[],[B53]⟩
theorem m64_ok : MemoOk Tryz.prog 14 420 (unM m64) := memo_known prog_ok (base := (putB (K32 (K60 (K61 (K62 (K63 putE))))))) (dprim := dprims) (mask := maskOf) (d := 400) (l := []) (putB_ok (K32_ok (K60_ok (K61_ok (K62_ok (K63_ok putE_ok)))))) dprims_ok hl_nil 0 420 (by kernel_rfl)
end Ae

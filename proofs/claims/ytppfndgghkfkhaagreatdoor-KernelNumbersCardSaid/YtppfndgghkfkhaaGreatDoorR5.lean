/- Known calls of the program, part 5: each is run by the kernel. -/
import Derived.Test.YtppfndgghkfkhaaGreatDoorR4
import Derived.Test.YtppfndgghkfkhaaGreatDoorC
set_option linter.all false
set_option maxRecDepth 100000
namespace Ae
open Go Go.Proofs
noncomputable def m33 : Memo := ⟨[.sp 512 (u 0) [(0,u 1097729),(1,u 1105921)]],[z,z,z,z,z,z,z,z,z,z,z,z,z,z],[],.v (.sl 14 0 4096 (.u 1)),[],[.oc 5 [(0,[1,192,16]),(8,[1,224,16])] 0 4096 true]⟩
theorem m33_ok : MemoOk Tryz.prog 14 420 (unM m33) := memo_known prog_ok (base := (putB (K32 (K30 (K31 putE))))) (dprim := dprims) (mask := maskOf) (d := 400) (l := []) (putB_ok (K32_ok (K30_ok (K31_ok putE_ok)))) dprims_ok hl_nil 0 420 (by kernel_rfl)
noncomputable def m34 : Memo := ⟨[.v (.sl0),.v (u 1101825)],[z,z,z,z,z,z,z,z,z,z,z,z,z,z],[],.v (.sl 14 0 8 (.k 8)),[],[.oc 5 [(0,[1,208,16])] 0 8 false]⟩
theorem m34_ok : MemoOk Tryz.prog 14 423 (unM m34) := memo_known prog_ok (base := prims0) (dprim := dprims) (mask := maskOf) (d := 400) (l := []) prims0_ok dprims_ok hl_nil 0 423 (by kernel_rfl)
noncomputable def K34 (fb : Pf) : Pf := konstK [.sl0, .n .u64 1101825] 14 (.sl 14 0 8 (.k 8)) [.row 5 (.n (some (.n .u8 1)) (.n (some (.n .u8 208)) .e .e) (.n (some (.n .u8 16)) .e .e)) [.n .u8 0] 8 false] fb
theorem K34_ok {fb : Pf} (h : PfOk Tryz.prog 423 fb) : PfOk Tryz.prog 423 (K34 fb) := fun cx h1 h2 => konstK_ok (m := m34) (by rw [h1, h2]; exact m34_ok) (h cx h1 h2) rfl rfl rfl rfl rfl (by kernel_rfl)
noncomputable def m35 : Memo := ⟨[.sp 512 (u 0) [(0,u 1101825)]],[z,z,z,z,z,z,z,z,z,z,z,z,z,z],[],.v (.sl 14 0 4096 (.u 1)),[],[.oc 5 [(0,[1,208,16])] 0 4096 true]⟩
theorem m35_ok : MemoOk Tryz.prog 14 420 (unM m35) := memo_known prog_ok (base := (putB (K32 (K34 putE)))) (dprim := dprims) (mask := maskOf) (d := 400) (l := []) (putB_ok (K32_ok (K34_ok putE_ok))) dprims_ok hl_nil 0 420 (by kernel_rfl)
noncomputable def m36 : Memo := ⟨[.v (.sl0),.v (u 1048581)],[z,z,z,z,z,z,z,z,z,z,z,z,z,z],[],.v (.sl 14 0 8 (.k 8)),[],[.oc 5 [(0,[5]),(2,[16])] 0 8 false]⟩
theorem m36_ok : MemoOk Tryz.prog 14 423 (unM m36) := memo_known prog_ok (base := prims0) (dprim := dprims) (mask := maskOf) (d := 400) (l := []) prims0_ok dprims_ok hl_nil 0 423 (by kernel_rfl)
noncomputable def K36 (fb : Pf) : Pf := konstK [.sl0, .n .u64 1048581] 14 (.sl 14 0 8 (.k 8)) [.row 5 (.n (some (.n .u8 5)) .e (.n (some (.n .u8 16)) .e .e)) [.n .u8 0] 8 false] fb
theorem K36_ok {fb : Pf} (h : PfOk Tryz.prog 423 fb) : PfOk Tryz.prog 423 (K36 fb) := fun cx h1 h2 => konstK_ok (m := m36) (by rw [h1, h2]; exact m36_ok) (h cx h1 h2) rfl rfl rfl rfl rfl (by kernel_rfl)
noncomputable def m37 : Memo := ⟨[.v (.sl0),.v (u 1073155)],[z,z,z,z,z,z,z,z,z,z,z,z,z,z],[],.v (.sl 14 0 8 (.k 8)),[],[.oc 5 [(0,[3,96,16])] 0 8 false]⟩
theorem m37_ok : MemoOk Tryz.prog 14 423 (unM m37) := memo_known prog_ok (base := prims0) (dprim := dprims) (mask := maskOf) (d := 400) (l := []) prims0_ok dprims_ok hl_nil 0 423 (by kernel_rfl)
noncomputable def K37 (fb : Pf) : Pf := konstK [.sl0, .n .u64 1073155] 14 (.sl 14 0 8 (.k 8)) [.row 5 (.n (some (.n .u8 3)) (.n (some (.n .u8 96)) .e .e) (.n (some (.n .u8 16)) .e .e)) [.n .u8 0] 8 false] fb
theorem K37_ok {fb : Pf} (h : PfOk Tryz.prog 423 fb) : PfOk Tryz.prog 423 (K37 fb) := fun cx h1 h2 => konstK_ok (m := m37) (by rw [h1, h2]; exact m37_ok) (h cx h1 h2) rfl rfl rfl rfl rfl (by kernel_rfl)
noncomputable def m38 : Memo := ⟨[.v (.sl0),.v (u 1077251)],[z,z,z,z,z,z,z,z,z,z,z,z,z,z],[],.v (.sl 14 0 8 (.k 8)),[],[.oc 5 [(0,[3,112,16])] 0 8 false]⟩
theorem m38_ok : MemoOk Tryz.prog 14 423 (unM m38) := memo_known prog_ok (base := prims0) (dprim := dprims) (mask := maskOf) (d := 400) (l := []) prims0_ok dprims_ok hl_nil 0 423 (by kernel_rfl)
noncomputable def K38 (fb : Pf) : Pf := konstK [.sl0, .n .u64 1077251] 14 (.sl 14 0 8 (.k 8)) [.row 5 (.n (some (.n .u8 3)) (.n (some (.n .u8 112)) .e .e) (.n (some (.n .u8 16)) .e .e)) [.n .u8 0] 8 false] fb
theorem K38_ok {fb : Pf} (h : PfOk Tryz.prog 423 fb) : PfOk Tryz.prog 423 (K38 fb) := fun cx h1 h2 => konstK_ok (m := m38) (by rw [h1, h2]; exact m38_ok) (h cx h1 h2) rfl rfl rfl rfl rfl (by kernel_rfl)
noncomputable def m39 : Memo := ⟨[.v (.sl0),.v (u 1056769)],[z,z,z,z,z,z,z,z,z,z,z,z,z,z],[],.v (.sl 14 0 8 (.k 8)),[],[.oc 5 [(0,[1,32,16])] 0 8 false]⟩
theorem m39_ok : MemoOk Tryz.prog 14 423 (unM m39) := memo_known prog_ok (base := prims0) (dprim := dprims) (mask := maskOf) (d := 400) (l := []) prims0_ok dprims_ok hl_nil 0 423 (by kernel_rfl)
noncomputable def K39 (fb : Pf) : Pf := konstK [.sl0, .n .u64 1056769] 14 (.sl 14 0 8 (.k 8)) [.row 5 (.n (some (.n .u8 1)) (.n (some (.n .u8 32)) .e .e) (.n (some (.n .u8 16)) .e .e)) [.n .u8 0] 8 false] fb
theorem K39_ok {fb : Pf} (h : PfOk Tryz.prog 423 fb) : PfOk Tryz.prog 423 (K39 fb) := fun cx h1 h2 => konstK_ok (m := m39) (by rw [h1, h2]; exact m39_ok) (h cx h1 h2) rfl rfl rfl rfl rfl (by kernel_rfl)
noncomputable def m40 : Memo := ⟨[.v (.sl0),.v (u 1060865)],[z,z,z,z,z,z,z,z,z,z,z,z,z,z],[],.v (.sl 14 0 8 (.k 8)),[],[.oc 5 [(0,[1,48,16])] 0 8 false]⟩
theorem m40_ok : MemoOk Tryz.prog 14 423 (unM m40) := memo_known prog_ok (base := prims0) (dprim := dprims) (mask := maskOf) (d := 400) (l := []) prims0_ok dprims_ok hl_nil 0 423 (by kernel_rfl)
noncomputable def K40 (fb : Pf) : Pf := konstK [.sl0, .n .u64 1060865] 14 (.sl 14 0 8 (.k 8)) [.row 5 (.n (some (.n .u8 1)) (.n (some (.n .u8 48)) .e .e) (.n (some (.n .u8 16)) .e .e)) [.n .u8 0] 8 false] fb
theorem K40_ok {fb : Pf} (h : PfOk Tryz.prog 423 fb) : PfOk Tryz.prog 423 (K40 fb) := fun cx h1 h2 => konstK_ok (m := m40) (by rw [h1, h2]; exact m40_ok) (h cx h1 h2) rfl rfl rfl rfl rfl (by kernel_rfl)
noncomputable def m41 : Memo := ⟨[.v (.sl0),.v (u 1064961)],[z,z,z,z,z,z,z,z,z,z,z,z,z,z],[],.v (.sl 14 0 8 (.k 8)),[],[.oc 5 [(0,[1,64,16])] 0 8 false]⟩
theorem m41_ok : MemoOk Tryz.prog 14 423 (unM m41) := memo_known prog_ok (base := prims0) (dprim := dprims) (mask := maskOf) (d := 400) (l := []) prims0_ok dprims_ok hl_nil 0 423 (by kernel_rfl)
noncomputable def K41 (fb : Pf) : Pf := konstK [.sl0, .n .u64 1064961] 14 (.sl 14 0 8 (.k 8)) [.row 5 (.n (some (.n .u8 1)) (.n (some (.n .u8 64)) .e .e) (.n (some (.n .u8 16)) .e .e)) [.n .u8 0] 8 false] fb
theorem K41_ok {fb : Pf} (h : PfOk Tryz.prog 423 fb) : PfOk Tryz.prog 423 (K41 fb) := fun cx h1 h2 => konstK_ok (m := m41) (by rw [h1, h2]; exact m41_ok) (h cx h1 h2) rfl rfl rfl rfl rfl (by kernel_rfl)
noncomputable def m42 : Memo := ⟨[.v (.sl0),.v (u 1069057)],[z,z,z,z,z,z,z,z,z,z,z,z,z,z],[],.v (.sl 14 0 8 (.k 8)),[],[.oc 5 [(0,[1,80,16])] 0 8 false]⟩
theorem m42_ok : MemoOk Tryz.prog 14 423 (unM m42) := memo_known prog_ok (base := prims0) (dprim := dprims) (mask := maskOf) (d := 400) (l := []) prims0_ok dprims_ok hl_nil 0 423 (by kernel_rfl)
noncomputable def K42 (fb : Pf) : Pf := konstK [.sl0, .n .u64 1069057] 14 (.sl 14 0 8 (.k 8)) [.row 5 (.n (some (.n .u8 1)) (.n (some (.n .u8 80)) .e .e) (.n (some (.n .u8 16)) .e .e)) [.n .u8 0] 8 false] fb
theorem K42_ok {fb : Pf} (h : PfOk Tryz.prog 423 fb) : PfOk Tryz.prog 423 (K42 fb) := fun cx h1 h2 => konstK_ok (m := m42) (by rw [h1, h2]; exact m42_ok) (h cx h1 h2) rfl rfl rfl rfl rfl (by kernel_rfl)
noncomputable def m43 : Memo := ⟨[.sp 512 (u 0) [(1,u 1048581),(16,u 1073155),(17,u 1077251),(32,u 1056769),(33,u 1060865),(34,u 1064961),(35,u 1069057)]],[z,z,z,z,z,z,z,z,z,z,z,z,z,z],[],.v (.sl 14 0 4096 (.u 1)),[],[B28]⟩
theorem m43_ok : MemoOk Tryz.prog 14 420 (unM m43) := memo_known prog_ok (base := (putB (K32 (K36 (K37 (K38 (K39 (K40 (K41 (K42 putE)))))))))) (dprim := dprims) (mask := maskOf) (d := 400) (l := []) (putB_ok (K32_ok (K36_ok (K37_ok (K38_ok (K39_ok (K40_ok (K41_ok (K42_ok putE_ok))))))))) dprims_ok hl_nil 0 420 (by kernel_rfl)
noncomputable def m44 : Memo := ⟨[.v (.sl0),.v (u 1110017)],[z,z,z,z,z,z,z,z,z,z,z,z,z,z],[],.v (.sl 14 0 8 (.k 8)),[],[.oc 5 [(0,[1,240,16])] 0 8 false]⟩
theorem m44_ok : MemoOk Tryz.prog 14 423 (unM m44) := memo_known prog_ok (base := prims0) (dprim := dprims) (mask := maskOf) (d := 400) (l := []) prims0_ok dprims_ok hl_nil 0 423 (by kernel_rfl)
noncomputable def K44 (fb : Pf) : Pf := konstK [.sl0, .n .u64 1110017] 14 (.sl 14 0 8 (.k 8)) [.row 5 (.n (some (.n .u8 1)) (.n (some (.n .u8 240)) .e .e) (.n (some (.n .u8 16)) .e .e)) [.n .u8 0] 8 false] fb
theorem K44_ok {fb : Pf} (h : PfOk Tryz.prog 423 fb) : PfOk Tryz.prog 423 (K44 fb) := fun cx h1 h2 => konstK_ok (m := m44) (by rw [h1, h2]; exact m44_ok) (h cx h1 h2) rfl rfl rfl rfl rfl (by kernel_rfl)
noncomputable def m45 : Memo := ⟨[.sp 512 (u 0) [(0,u 1110017)]],[z,z,z,z,z,z,z,z,z,z,z,z,z,z],[],.v (.sl 14 0 4096 (.u 1)),[],[.oc 5 [(0,[1,240,16])] 0 4096 true]⟩
theorem m45_ok : MemoOk Tryz.prog 14 420 (unM m45) := memo_known prog_ok (base := (putB (K32 (K44 putE)))) (dprim := dprims) (mask := maskOf) (d := 400) (l := []) (putB_ok (K32_ok (K44_ok putE_ok))) dprims_ok hl_nil 0 420 (by kernel_rfl)
noncomputable def m46 : Memo := ⟨[.v (.sl0),.v (u 4026531843)],[z,z,z,z,z,z,z,z,z,z,z,z,z,z],[],.v (.sl 14 0 8 (.k 8)),[],[.oc 5 [(0,[3]),(3,[240])] 0 8 false]⟩
theorem m46_ok : MemoOk Tryz.prog 14 423 (unM m46) := memo_known prog_ok (base := prims0) (dprim := dprims) (mask := maskOf) (d := 400) (l := []) prims0_ok dprims_ok hl_nil 0 423 (by kernel_rfl)
noncomputable def K46 (fb : Pf) : Pf := konstK [.sl0, .n .u64 4026531843] 14 (.sl 14 0 8 (.k 8)) [.row 5 (.n (some (.n .u8 3)) (.n none (.n (some (.n .u8 240)) .e .e) .e) .e) [.n .u8 0] 8 false] fb
theorem K46_ok {fb : Pf} (h : PfOk Tryz.prog 423 fb) : PfOk Tryz.prog 423 (K46 fb) := fun cx h1 h2 => konstK_ok (m := m46) (by rw [h1, h2]; exact m46_ok) (h cx h1 h2) rfl rfl rfl rfl rfl (by kernel_rfl)
noncomputable def m47 : Memo := ⟨[.sp 512 (u 0) [(0,u 4026531843)]],[z,z,z,z,z,z,z,z,z,z,z,z,z,z],[],.v (.sl 14 0 4096 (.u 1)),[],[.oc 5 [(0,[3]),(3,[240])] 0 4096 true]⟩
theorem m47_ok : MemoOk Tryz.prog 14 420 (unM m47) := memo_known prog_ok (base := (putB (K32 (K46 putE)))) (dprim := dprims) (mask := maskOf) (d := 400) (l := []) (putB_ok (K32_ok (K46_ok putE_ok))) dprims_ok hl_nil 0 420 (by kernel_rfl)
noncomputable def m48 : Memo := ⟨[.v (.sl0),.v (u 1118209)],[z,z,z,z,z,z,z,z,z,z,z,z,z,z],[],.v (.sl 14 0 8 (.k 8)),[],[.oc 5 [(0,[1,16,17])] 0 8 false]⟩
theorem m48_ok : MemoOk Tryz.prog 14 423 (unM m48) := memo_known prog_ok (base := prims0) (dprim := dprims) (mask := maskOf) (d := 400) (l := []) prims0_ok dprims_ok hl_nil 0 423 (by kernel_rfl)
noncomputable def K48 (fb : Pf) : Pf := konstK [.sl0, .n .u64 1118209] 14 (.sl 14 0 8 (.k 8)) [.row 5 (.n (some (.n .u8 1)) (.n (some (.n .u8 16)) .e .e) (.n (some (.n .u8 17)) .e .e)) [.n .u8 0] 8 false] fb
theorem K48_ok {fb : Pf} (h : PfOk Tryz.prog 423 fb) : PfOk Tryz.prog 423 (K48 fb) := fun cx h1 h2 => konstK_ok (m := m48) (by rw [h1, h2]; exact m48_ok) (h cx h1 h2) rfl rfl rfl rfl rfl (by kernel_rfl)
noncomputable def m49 : Memo := ⟨[.sp 512 (u 0) [(0,u 1118209)]],[z,z,z,z,z,z,z,z,z,z,z,z,z,z],[],.v (.sl 14 0 4096 (.u 1)),[],[.oc 5 [(0,[1,16,17])] 0 4096 true]⟩
theorem m49_ok : MemoOk Tryz.prog 14 420 (unM m49) := memo_known prog_ok (base := (putB (K32 (K48 putE)))) (dprim := dprims) (mask := maskOf) (d := 400) (l := []) (putB_ok (K32_ok (K48_ok putE_ok))) dprims_ok hl_nil 0 420 (by kernel_rfl)
noncomputable def m50 : Memo := ⟨[.v (.sl0),.v (u 1122305)],[z,z,z,z,z,z,z,z,z,z,z,z,z,z],[],.v (.sl 14 0 8 (.k 8)),[],[.oc 5 [(0,[1,32,17])] 0 8 false]⟩
theorem m50_ok : MemoOk Tryz.prog 14 423 (unM m50) := memo_known prog_ok (base := prims0) (dprim := dprims) (mask := maskOf) (d := 400) (l := []) prims0_ok dprims_ok hl_nil 0 423 (by kernel_rfl)
noncomputable def K50 (fb : Pf) : Pf := konstK [.sl0, .n .u64 1122305] 14 (.sl 14 0 8 (.k 8)) [.row 5 (.n (some (.n .u8 1)) (.n (some (.n .u8 32)) .e .e) (.n (some (.n .u8 17)) .e .e)) [.n .u8 0] 8 false] fb
theorem K50_ok {fb : Pf} (h : PfOk Tryz.prog 423 fb) : PfOk Tryz.prog 423 (K50 fb) := fun cx h1 h2 => konstK_ok (m := m50) (by rw [h1, h2]; exact m50_ok) (h cx h1 h2) rfl rfl rfl rfl rfl (by kernel_rfl)
end Ae

/- Known calls of the program, part 5: each is run by the kernel. -/
import Derived.Test.YtafpilamlkhgkaaGreatDoorSR4
import Derived.Test.YtafpilamlkhgkaaGreatDoorSC
set_option linter.all false
set_option maxRecDepth 100000
namespace Ae
open Go Go.Proofs
noncomputable def m32 : Memo := ⟨[.sp 512 (u 0) [(1,u 1048581),(16,u 1073155),(17,u 1077251),(32,u 1056769),(33,u 1060865),(34,u 1064961),(35,u 1069057)]],[z,z,z,z,z,z,z,z,z,z,z,z,z,z],[],.v (.sl 14 0 4096 (.u 1)),[],[B20]⟩
theorem m32_ok : MemoOk Tryz.prog 14 473 (unM m32) := memo_known prog_ok (base := (putB (K21 (K25 (K26 (K27 (K28 (K29 (K30 (K31 putE)))))))))) (dprim := dprims) (mask := maskOf) (d := 400) (l := []) (putB_ok (K21_ok (K25_ok (K26_ok (K27_ok (K28_ok (K29_ok (K30_ok (K31_ok putE_ok))))))))) dprims_ok hl_nil 0 473 (by kernel_rfl)
noncomputable def m33 : Memo := ⟨[.v (.sl0),.v (u 1110017)],[z,z,z,z,z,z,z,z,z,z,z,z,z,z],[],.v (.sl 14 0 8 (.k 8)),[],[.oc 5 [(0,[1,240,16])] 0 8 false]⟩
theorem m33_ok : MemoOk Tryz.prog 14 105 (unM m33) := memo_known prog_ok (base := prims0) (dprim := dprims) (mask := maskOf) (d := 400) (l := []) prims0_ok dprims_ok hl_nil 0 105 (by kernel_rfl)
noncomputable def K33 (fb : Pf) : Pf := konstK [.sl0, .n .u64 1110017] 14 (.sl 14 0 8 (.k 8)) [.row 5 (.n (some (.n .u8 1)) (.n (some (.n .u8 240)) .e .e) (.n (some (.n .u8 16)) .e .e)) [.n .u8 0] 8 false] fb
theorem K33_ok {fb : Pf} (h : PfOk Tryz.prog 105 fb) : PfOk Tryz.prog 105 (K33 fb) := fun cx h1 h2 => konstK_ok (m := m33) (by rw [h1, h2]; exact m33_ok) (h cx h1 h2) rfl rfl rfl rfl rfl (by kernel_rfl)
noncomputable def m34 : Memo := ⟨[.sp 512 (u 0) [(0,u 1110017)]],[z,z,z,z,z,z,z,z,z,z,z,z,z,z],[],.v (.sl 14 0 4096 (.u 1)),[],[.oc 5 [(0,[1,240,16])] 0 4096 true]⟩
theorem m34_ok : MemoOk Tryz.prog 14 473 (unM m34) := memo_known prog_ok (base := (putB (K21 (K33 putE)))) (dprim := dprims) (mask := maskOf) (d := 400) (l := []) (putB_ok (K21_ok (K33_ok putE_ok))) dprims_ok hl_nil 0 473 (by kernel_rfl)
noncomputable def m35 : Memo := ⟨[.v (.sl0),.v (u 4026531843)],[z,z,z,z,z,z,z,z,z,z,z,z,z,z],[],.v (.sl 14 0 8 (.k 8)),[],[.oc 5 [(0,[3]),(3,[240])] 0 8 false]⟩
theorem m35_ok : MemoOk Tryz.prog 14 105 (unM m35) := memo_known prog_ok (base := prims0) (dprim := dprims) (mask := maskOf) (d := 400) (l := []) prims0_ok dprims_ok hl_nil 0 105 (by kernel_rfl)
noncomputable def K35 (fb : Pf) : Pf := konstK [.sl0, .n .u64 4026531843] 14 (.sl 14 0 8 (.k 8)) [.row 5 (.n (some (.n .u8 3)) (.n none (.n (some (.n .u8 240)) .e .e) .e) .e) [.n .u8 0] 8 false] fb
theorem K35_ok {fb : Pf} (h : PfOk Tryz.prog 105 fb) : PfOk Tryz.prog 105 (K35 fb) := fun cx h1 h2 => konstK_ok (m := m35) (by rw [h1, h2]; exact m35_ok) (h cx h1 h2) rfl rfl rfl rfl rfl (by kernel_rfl)
noncomputable def m36 : Memo := ⟨[.sp 512 (u 0) [(0,u 4026531843)]],[z,z,z,z,z,z,z,z,z,z,z,z,z,z],[],.v (.sl 14 0 4096 (.u 1)),[],[.oc 5 [(0,[3]),(3,[240])] 0 4096 true]⟩
theorem m36_ok : MemoOk Tryz.prog 14 473 (unM m36) := memo_known prog_ok (base := (putB (K21 (K35 putE)))) (dprim := dprims) (mask := maskOf) (d := 400) (l := []) (putB_ok (K21_ok (K35_ok putE_ok))) dprims_ok hl_nil 0 473 (by kernel_rfl)
noncomputable def m37 : Memo := ⟨[.v (.sl0),.v (u 1118209)],[z,z,z,z,z,z,z,z,z,z,z,z,z,z],[],.v (.sl 14 0 8 (.k 8)),[],[.oc 5 [(0,[1,16,17])] 0 8 false]⟩
theorem m37_ok : MemoOk Tryz.prog 14 105 (unM m37) := memo_known prog_ok (base := prims0) (dprim := dprims) (mask := maskOf) (d := 400) (l := []) prims0_ok dprims_ok hl_nil 0 105 (by kernel_rfl)
noncomputable def K37 (fb : Pf) : Pf := konstK [.sl0, .n .u64 1118209] 14 (.sl 14 0 8 (.k 8)) [.row 5 (.n (some (.n .u8 1)) (.n (some (.n .u8 16)) .e .e) (.n (some (.n .u8 17)) .e .e)) [.n .u8 0] 8 false] fb
theorem K37_ok {fb : Pf} (h : PfOk Tryz.prog 105 fb) : PfOk Tryz.prog 105 (K37 fb) := fun cx h1 h2 => konstK_ok (m := m37) (by rw [h1, h2]; exact m37_ok) (h cx h1 h2) rfl rfl rfl rfl rfl (by kernel_rfl)
noncomputable def m38 : Memo := ⟨[.sp 512 (u 0) [(0,u 1118209)]],[z,z,z,z,z,z,z,z,z,z,z,z,z,z],[],.v (.sl 14 0 4096 (.u 1)),[],[.oc 5 [(0,[1,16,17])] 0 4096 true]⟩
theorem m38_ok : MemoOk Tryz.prog 14 473 (unM m38) := memo_known prog_ok (base := (putB (K21 (K37 putE)))) (dprim := dprims) (mask := maskOf) (d := 400) (l := []) (putB_ok (K21_ok (K37_ok putE_ok))) dprims_ok hl_nil 0 473 (by kernel_rfl)
noncomputable def m39 : Memo := ⟨[.v (.sl0),.v (u 1122305)],[z,z,z,z,z,z,z,z,z,z,z,z,z,z],[],.v (.sl 14 0 8 (.k 8)),[],[.oc 5 [(0,[1,32,17])] 0 8 false]⟩
theorem m39_ok : MemoOk Tryz.prog 14 105 (unM m39) := memo_known prog_ok (base := prims0) (dprim := dprims) (mask := maskOf) (d := 400) (l := []) prims0_ok dprims_ok hl_nil 0 105 (by kernel_rfl)
noncomputable def K39 (fb : Pf) : Pf := konstK [.sl0, .n .u64 1122305] 14 (.sl 14 0 8 (.k 8)) [.row 5 (.n (some (.n .u8 1)) (.n (some (.n .u8 32)) .e .e) (.n (some (.n .u8 17)) .e .e)) [.n .u8 0] 8 false] fb
theorem K39_ok {fb : Pf} (h : PfOk Tryz.prog 105 fb) : PfOk Tryz.prog 105 (K39 fb) := fun cx h1 h2 => konstK_ok (m := m39) (by rw [h1, h2]; exact m39_ok) (h cx h1 h2) rfl rfl rfl rfl rfl (by kernel_rfl)
noncomputable def m40 : Memo := ⟨[.sp 512 (u 0) [(0,u 1122305)]],[z,z,z,z,z,z,z,z,z,z,z,z,z,z],[],.v (.sl 14 0 4096 (.u 1)),[],[.oc 5 [(0,[1,32,17])] 0 4096 true]⟩
theorem m40_ok : MemoOk Tryz.prog 14 473 (unM m40) := memo_known prog_ok (base := (putB (K21 (K39 putE)))) (dprim := dprims) (mask := maskOf) (d := 400) (l := []) (putB_ok (K21_ok (K39_ok putE_ok))) dprims_ok hl_nil 0 473 (by kernel_rfl)
noncomputable def m41 : Memo := ⟨[.v (.sl0),.v (u 1052677)],[z,z,z,z,z,z,z,z,z,z,z,z,z,z],[],.v (.sl 14 0 8 (.k 8)),[],[.oc 5 [(0,[5,16,16])] 0 8 false]⟩
theorem m41_ok : MemoOk Tryz.prog 14 105 (unM m41) := memo_known prog_ok (base := prims0) (dprim := dprims) (mask := maskOf) (d := 400) (l := []) prims0_ok dprims_ok hl_nil 0 105 (by kernel_rfl)
noncomputable def K41 (fb : Pf) : Pf := konstK [.sl0, .n .u64 1052677] 14 (.sl 14 0 8 (.k 8)) [.row 5 (.n (some (.n .u8 5)) (.n (some (.n .u8 16)) .e .e) (.n (some (.n .u8 16)) .e .e)) [.n .u8 0] 8 false] fb
theorem K41_ok {fb : Pf} (h : PfOk Tryz.prog 105 fb) : PfOk Tryz.prog 105 (K41 fb) := fun cx h1 h2 => konstK_ok (m := m41) (by rw [h1, h2]; exact m41_ok) (h cx h1 h2) rfl rfl rfl rfl rfl (by kernel_rfl)
noncomputable def m42 : Memo := ⟨[.v (.sl0),.v (u 1081347)],[z,z,z,z,z,z,z,z,z,z,z,z,z,z],[],.v (.sl 14 0 8 (.k 8)),[],[.oc 5 [(0,[3,128,16])] 0 8 false]⟩
theorem m42_ok : MemoOk Tryz.prog 14 105 (unM m42) := memo_known prog_ok (base := prims0) (dprim := dprims) (mask := maskOf) (d := 400) (l := []) prims0_ok dprims_ok hl_nil 0 105 (by kernel_rfl)
noncomputable def K42 (fb : Pf) : Pf := konstK [.sl0, .n .u64 1081347] 14 (.sl 14 0 8 (.k 8)) [.row 5 (.n (some (.n .u8 3)) (.n (some (.n .u8 128)) .e .e) (.n (some (.n .u8 16)) .e .e)) [.n .u8 0] 8 false] fb
theorem K42_ok {fb : Pf} (h : PfOk Tryz.prog 105 fb) : PfOk Tryz.prog 105 (K42 fb) := fun cx h1 h2 => konstK_ok (m := m42) (by rw [h1, h2]; exact m42_ok) (h cx h1 h2) rfl rfl rfl rfl rfl (by kernel_rfl)
noncomputable def m43 : Memo := ⟨[.v (.sl0),.v (u 1085443)],[z,z,z,z,z,z,z,z,z,z,z,z,z,z],[],.v (.sl 14 0 8 (.k 8)),[],[.oc 5 [(0,[3,144,16])] 0 8 false]⟩
theorem m43_ok : MemoOk Tryz.prog 14 105 (unM m43) := memo_known prog_ok (base := prims0) (dprim := dprims) (mask := maskOf) (d := 400) (l := []) prims0_ok dprims_ok hl_nil 0 105 (by kernel_rfl)
noncomputable def K43 (fb : Pf) : Pf := konstK [.sl0, .n .u64 1085443] 14 (.sl 14 0 8 (.k 8)) [.row 5 (.n (some (.n .u8 3)) (.n (some (.n .u8 144)) .e .e) (.n (some (.n .u8 16)) .e .e)) [.n .u8 0] 8 false] fb
theorem K43_ok {fb : Pf} (h : PfOk Tryz.prog 105 fb) : PfOk Tryz.prog 105 (K43 fb) := fun cx h1 h2 => konstK_ok (m := m43) (by rw [h1, h2]; exact m43_ok) (h cx h1 h2) rfl rfl rfl rfl rfl (by kernel_rfl)
noncomputable def m44 : Memo := ⟨[.sp 512 (u 0) [(1,u 1052677),(16,u 1081347),(17,u 1085443)]],[z,z,z,z,z,z,z,z,z,z,z,z,z,z],[],.v (.sl 14 0 4096 (.u 1)),[],[B51]⟩
theorem m44_ok : MemoOk Tryz.prog 14 473 (unM m44) := memo_known prog_ok (base := (putB (K21 (K41 (K42 (K43 putE)))))) (dprim := dprims) (mask := maskOf) (d := 400) (l := []) (putB_ok (K21_ok (K41_ok (K42_ok (K43_ok putE_ok))))) dprims_ok hl_nil 0 473 (by kernel_rfl)
noncomputable def m45 : Memo := ⟨[.v (.sl0),.v (u 1130497)],[z,z,z,z,z,z,z,z,z,z,z,z,z,z],[],.v (.sl 14 0 8 (.k 8)),[],[.oc 5 [(0,[1,64,17])] 0 8 false]⟩
theorem m45_ok : MemoOk Tryz.prog 14 105 (unM m45) := memo_known prog_ok (base := prims0) (dprim := dprims) (mask := maskOf) (d := 400) (l := []) prims0_ok dprims_ok hl_nil 0 105 (by kernel_rfl)
noncomputable def K45 (fb : Pf) : Pf := konstK [.sl0, .n .u64 1130497] 14 (.sl 14 0 8 (.k 8)) [.row 5 (.n (some (.n .u8 1)) (.n (some (.n .u8 64)) .e .e) (.n (some (.n .u8 17)) .e .e)) [.n .u8 0] 8 false] fb
theorem K45_ok {fb : Pf} (h : PfOk Tryz.prog 105 fb) : PfOk Tryz.prog 105 (K45 fb) := fun cx h1 h2 => konstK_ok (m := m45) (by rw [h1, h2]; exact m45_ok) (h cx h1 h2) rfl rfl rfl rfl rfl (by kernel_rfl)
noncomputable def m46 : Memo := ⟨[.sp 512 (u 0) [(0,u 1130497)]],[z,z,z,z,z,z,z,z,z,z,z,z,z,z],[],.v (.sl 14 0 4096 (.u 1)),[],[.oc 5 [(0,[1,64,17])] 0 4096 true]⟩
theorem m46_ok : MemoOk Tryz.prog 14 473 (unM m46) := memo_known prog_ok (base := (putB (K21 (K45 putE)))) (dprim := dprims) (mask := maskOf) (d := 400) (l := []) (putB_ok (K21_ok (K45_ok putE_ok))) dprims_ok hl_nil 0 473 (by kernel_rfl)
noncomputable def m47 : Memo := ⟨[.v (.sl0),.v (u 1134593)],[z,z,z,z,z,z,z,z,z,z,z,z,z,z],[],.v (.sl 14 0 8 (.k 8)),[],[.oc 5 [(0,[1,80,17])] 0 8 false]⟩
theorem m47_ok : MemoOk Tryz.prog 14 105 (unM m47) := memo_known prog_ok (base := prims0) (dprim := dprims) (mask := maskOf) (d := 400) (l := []) prims0_ok dprims_ok hl_nil 0 105 (by kernel_rfl)
noncomputable def K47 (fb : Pf) : Pf := konstK [.sl0, .n .u64 1134593] 14 (.sl 14 0 8 (.k 8)) [.row 5 (.n (some (.n .u8 1)) (.n (some (.n .u8 80)) .e .e) (.n (some (.n .u8 17)) .e .e)) [.n .u8 0] 8 false] fb
theorem K47_ok {fb : Pf} (h : PfOk Tryz.prog 105 fb) : PfOk Tryz.prog 105 (K47 fb) := fun cx h1 h2 => konstK_ok (m := m47) (by rw [h1, h2]; exact m47_ok) (h cx h1 h2) rfl rfl rfl rfl rfl (by kernel_rfl)
end Ae

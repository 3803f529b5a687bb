/- Known calls of the program, part 18: each is run by the kernel. -/
import Derived.Test.YtafpilamlkhgkaaGreatDoorSR8
import Derived.Test.YtafpilamlkhgkaaGreatDoorSR10
import Derived.Test.YtafpilamlkhgkaaGreatDoorSR11
import Derived.Test.YtafpilamlkhgkaaGreatDoorSR14
import Derived.Test.YtafpilamlkhgkaaGreatDoorSR17
import Derived.Test.YtafpilamlkhgkaaGreatDoorSC
set_option linter.all false
set_option maxRecDepth 100000
namespace Ae
open Go Go.Proofs
noncomputable def m97 : Memo := ⟨[.v (.a [.sl 14 0 1 (.u 2),.sl 15 0 2 (.u 2)]),.v (.sl 16 0 49152 (.u 1)),.v (.sl0),.v (i 0),.v (i 0)],[z,z,z,z,z,z,z,z,z,z,z,z,z,z,.ro 134 [(0,[u 1048576,u 8388608])] [] 2 true,B36,B1],[.arg,.arg,.arg],.v (.t [.b false,.i 30 (i 170)]),[],[]⟩
noncomputable def t97 : List (Nat × List Memo) := [(71, [m59]), (72, [m72]), (73, [m96])]
theorem t97_ok : ∀ e ∈ t97, ∀ m ∈ e.2, MemoOk Tryz.prog 14 e.1 (unM m) := (hl_cons (hm_cons m59_ok hm_nil) (hl_cons (hm_cons m72_ok hm_nil) (hl_cons (hm_cons m96_ok hm_nil) hl_nil)))
theorem m97_ok : MemoOk Tryz.prog 14 20 (unM m97) := memo_known prog_ok (base := prims0) (dprim := dprims) (mask := maskOf) (d := 400) (l := t97) prims0_ok dprims_ok t97_ok 8 20 (by kernel_rfl)
noncomputable def m98 : Memo := ⟨[.v (.a [.sl 14 0 1 (.u 2),.sl 15 0 2 (.u 2)]),.v (.sl 16 0 49152 (.u 1)),.v (.sl0),.v (i 4),.v (i 0)],[z,z,z,z,z,z,z,z,z,z,z,z,z,z,.ro 134 [(0,[u 1048576,u 8388608])] [] 2 true,B36,B1],[.arg,.arg,.arg],.v (.t [.b false,.i 30 (i 170)]),[],[]⟩
noncomputable def t98 : List (Nat × List Memo) := [(71, [m59]), (72, [m72]), (73, [m96])]
theorem t98_ok : ∀ e ∈ t98, ∀ m ∈ e.2, MemoOk Tryz.prog 14 e.1 (unM m) := (hl_cons (hm_cons m59_ok hm_nil) (hl_cons (hm_cons m72_ok hm_nil) (hl_cons (hm_cons m96_ok hm_nil) hl_nil)))
theorem m98_ok : MemoOk Tryz.prog 14 20 (unM m98) := memo_known prog_ok (base := prims0) (dprim := dprims) (mask := maskOf) (d := 400) (l := t98) prims0_ok dprims_ok t98_ok 8 20 (by kernel_rfl)
noncomputable def m99 : Memo := ⟨[.v (.a [.sl 14 0 1 (.u 2),.sl 15 0 2 (.u 2)]),.v (.sl 16 0 49152 (.u 1)),.v (.sl0),.v (i 2)],[z,z,z,z,z,z,z,z,z,z,z,z,z,z,.ro 134 [(0,[u 1048576,u 8388608])] [] 2 true,B36,B1],[.arg,.arg,.arg],.v (.t [.sl0,.i 30 (i 170)]),[],[]⟩
noncomputable def t99 : List (Nat × List Memo) := [(71, [m59]), (72, [m72]), (73, [m96])]
theorem t99_ok : ∀ e ∈ t99, ∀ m ∈ e.2, MemoOk Tryz.prog 14 e.1 (unM m) := (hl_cons (hm_cons m59_ok hm_nil) (hl_cons (hm_cons m72_ok hm_nil) (hl_cons (hm_cons m96_ok hm_nil) hl_nil)))
theorem m99_ok : MemoOk Tryz.prog 14 19 (unM m99) := memo_known prog_ok (base := prims0) (dprim := dprims) (mask := maskOf) (d := 400) (l := t99) prims0_ok dprims_ok t99_ok 8 19 (by kernel_rfl)
noncomputable def m100 : Memo := ⟨[.v (.a [.sl 14 0 1 (.u 2),.sl 15 0 2 (.u 2)]),.v (.sl 16 0 49152 (.u 1)),.v (.sl0),.v (i 1),.v (i 0)],[z,z,z,z,z,z,z,z,z,z,z,z,z,z,.ro 134 [(0,[u 1048576,u 8388608])] [] 2 true,B36,B1],[.arg,.arg,.arg],.v (.t [.sl0,.i 30 (i 181)]),[],[]⟩
noncomputable def t100 : List (Nat × List Memo) := [(71, [m59]), (72, [m72]), (74, [m80]), (73, [m96])]
theorem t100_ok : ∀ e ∈ t100, ∀ m ∈ e.2, MemoOk Tryz.prog 14 e.1 (unM m) := (hl_cons (hm_cons m59_ok hm_nil) (hl_cons (hm_cons m72_ok hm_nil) (hl_cons (hm_cons m80_ok hm_nil) (hl_cons (hm_cons m96_ok hm_nil) hl_nil))))
theorem m100_ok : MemoOk Tryz.prog 14 21 (unM m100) := memo_known prog_ok (base := prims0) (dprim := dprims) (mask := maskOf) (d := 400) (l := t100) prims0_ok dprims_ok t100_ok 8 21 (by kernel_rfl)
noncomputable def m101 : Memo := ⟨[.v (.a [.sl 14 0 1 (.u 2),.sl 15 0 2 (.u 2)]),.v (.sl 16 0 49152 (.u 1)),.v (.sl 17 0 2 (.k 2)),.v (i 1),.v (i 0)],[z,z,z,z,z,z,z,z,z,z,z,z,z,z,.ro 134 [(0,[u 1048576,u 8388608])] [] 2 true,B36,B1,.ro 28 [(0,[i 6,i 1,i 0,i 0,u 0,i 0,u 0,i 7,i 0,i 0,i 0,u 0,i 0,u 63])] [] 14 false],[.arg,.arg,.arg,.arg],.v (.t [.b true,.i0]),[],[]⟩
noncomputable def t101 : List (Nat × List Memo) := [(71, [m59]), (72, [m72]), (74, [m80]), (73, [m96])]
theorem t101_ok : ∀ e ∈ t101, ∀ m ∈ e.2, MemoOk Tryz.prog 14 e.1 (unM m) := (hl_cons (hm_cons m59_ok hm_nil) (hl_cons (hm_cons m72_ok hm_nil) (hl_cons (hm_cons m80_ok hm_nil) (hl_cons (hm_cons m96_ok hm_nil) hl_nil))))
theorem m101_ok : MemoOk Tryz.prog 14 20 (unM m101) := memo_known prog_ok (base := prims0) (dprim := dprims) (mask := maskOf) (d := 400) (l := t101) prims0_ok dprims_ok t101_ok 8 20 (by kernel_rfl)
noncomputable def m102 : Memo := ⟨[.v (.a [.sl 14 0 1 (.u 2),.sl 15 0 2 (.u 2)]),.v (.sl 16 0 49152 (.u 1)),.v (.sl 17 0 2 (.k 2)),.v (i 3),.v (i 1)],[z,z,z,z,z,z,z,z,z,z,z,z,z,z,.ro 134 [(0,[u 1048576,u 8388608])] [] 2 true,B36,B1,.ro 28 [(0,[i 3,i 0,i 1,i 2,u 0,i 1,u 9,i 5,i 1,i 0,i 1,u 65536,i 1,u 0])] [] 14 false],[.arg,.arg,.arg,.arg],.v (.t [.b false,.i0]),[],[]⟩
noncomputable def t102 : List (Nat × List Memo) := [(71, [m59]), (72, [m72]), (74, [m80]), (73, [m96])]
theorem t102_ok : ∀ e ∈ t102, ∀ m ∈ e.2, MemoOk Tryz.prog 14 e.1 (unM m) := (hl_cons (hm_cons m59_ok hm_nil) (hl_cons (hm_cons m72_ok hm_nil) (hl_cons (hm_cons m80_ok hm_nil) (hl_cons (hm_cons m96_ok hm_nil) hl_nil))))
theorem m102_ok : MemoOk Tryz.prog 14 20 (unM m102) := memo_known prog_ok (base := prims0) (dprim := dprims) (mask := maskOf) (d := 400) (l := t102) prims0_ok dprims_ok t102_ok 8 20 (by kernel_rfl)
noncomputable def m103 : Memo := ⟨[.v (.a [.sl 14 0 1 (.u 2),.sl 15 0 2 (.u 2)]),.v (.sl 16 0 49152 (.u 1)),.v (.sl 17 0 7 (.k 7)),.v (i 1),.v (i 0)],[z,z,z,z,z,z,z,z,z,z,z,z,z,z,.ro 134 [(0,[u 1048576,u 8388608])] [] 2 true,B36,B1,.ro 28 [(0,[i 1]),(4,[u 0]),(6,[u 3,i 9,i 1]),(11,[u 4]),(13,[u 5,i 10,i 1]),(18,[u 0]),(20,[u 0,i 6,i 1]),(25,[u 0]),(27,[u 0,i 10]),(32,[u 0]),(34,[u 0,i 7]),(39,[u 0]),(41,[u 63,i 7]),(46,[u 0]),(48,[u 63])] [i 0] 49 false],[.arg,.arg,.arg,.arg],.v (.t [.sl 18 0 2 (.u 7),.i0]),[],[.ro 28 [(0,[i 6,i 1,i 0,i 0,u 0,i 0,u 0,i 7,i 0,i 0,i 0,u 0,i 0,u 63])] [] 14 true]⟩
noncomputable def t103 : List (Nat × List Memo) := [(71, [m59]), (72, [m72]), (74, [m80]), (73, [m96])]
theorem t103_ok : ∀ e ∈ t103, ∀ m ∈ e.2, MemoOk Tryz.prog 14 e.1 (unM m) := (hl_cons (hm_cons m59_ok hm_nil) (hl_cons (hm_cons m72_ok hm_nil) (hl_cons (hm_cons m80_ok hm_nil) (hl_cons (hm_cons m96_ok hm_nil) hl_nil))))
theorem m103_ok : MemoOk Tryz.prog 14 21 (unM m103) := memo_known prog_ok (base := prims0) (dprim := dprims) (mask := maskOf) (d := 400) (l := t103) prims0_ok dprims_ok t103_ok 8 21 (by kernel_rfl)
noncomputable def m104 : Memo := ⟨[],[z,z,B5,B8,.oc 811 [(9,[1,1,1,1,1]),(32,[1])] 0 256 false,z,z,z,.oc 878 [(6,[2,3,4,5,5,6,6,7])] 1 14 false,z,z,z,z,z],[],.v (.b true),[],[]⟩
noncomputable def t104 : List (Nat × List Memo) := [(18, [m91]), (21, [m103])]
theorem t104_ok : ∀ e ∈ t104, ∀ m ∈ e.2, MemoOk Tryz.prog 14 e.1 (unM m) := (hl_cons (hm_cons m91_ok hm_nil) (hl_cons (hm_cons m103_ok hm_nil) hl_nil))
theorem m104_ok : MemoOk Tryz.prog 14 23 (unM m104) := memo_known prog_ok (base := prims0) (dprim := dprims) (mask := maskOf) (d := 400) (l := t104) prims0_ok dprims_ok t104_ok 8 23 (by kernel_rfl)
noncomputable def m105 : Memo := ⟨[],[z,z,B5,B8,.oc 811 [(9,[1,1,1,1,1]),(32,[1])] 0 256 false,z,z,z,.oc 878 [(6,[2,3,4,5,5,6,6,7])] 1 14 false,z,z,z,z,z],[],.v (.b true),[],[]⟩
noncomputable def t105 : List (Nat × List Memo) := [(18, [m91]), (19, [m92, m99]), (20, [m97, m98, m101, m102]), (21, [m100]), (23, [m104])]
theorem t105_ok : ∀ e ∈ t105, ∀ m ∈ e.2, MemoOk Tryz.prog 14 e.1 (unM m) := (hl_cons (hm_cons m91_ok hm_nil) (hl_cons (hm_cons m92_ok (hm_cons m99_ok hm_nil)) (hl_cons (hm_cons m97_ok (hm_cons m98_ok (hm_cons m101_ok (hm_cons m102_ok hm_nil)))) (hl_cons (hm_cons m100_ok hm_nil) (hl_cons (hm_cons m104_ok hm_nil) hl_nil)))))
theorem m105_ok : MemoOk Tryz.prog 14 5 (unM m105) := memo_known prog_ok (base := prims0) (dprim := dprims) (mask := maskOf) (d := 400) (l := t105) prims0_ok dprims_ok t105_ok 8 5 (by kernel_rfl)
end Ae

/- Known calls of the program, part 14: each is run by the kernel. -/
import Derived.Test.YtppfndgghkfkhaaGreatDoorR13
import Derived.Test.YtppfndgghkfkhaaGreatDoorC
set_option linter.all false
set_option maxRecDepth 100000
namespace Ae
open Go Go.Proofs
noncomputable def m109 : Memo := ⟨[.v (.p 14 0),.v (u 0),.v (.sl 15 0 12288 (.u 1))],[z,z,z,z,z,z,z,z,z,z,z,z,z,z,B39,B6,.ro 121 [(0,[u 0,u 65536])] [] 2 true,B71,.bx (.map [])],[.arg,.arg,.cell 14 3,.cell 14 5,.cell 14 6],.v (.a [i 0,u 0]),[none,none,none,none,none,none,none,none,none,none,none,none,none,none,none,none,none,none,some (.bx (.map [(u 0,.p 19 0)]))],[B5]⟩
theorem m109_ok : MemoOk Tryz.prog 14 39 (unM m109) := memo_known prog_ok (base := prims0) (dprim := dprims) (mask := maskOf) (d := 400) (l := []) prims0_ok dprims_ok hl_nil 0 39 (by kernel_rfl)
noncomputable def m110 : Memo := ⟨[.v (.p 14 0),.v (.sl 15 0 12288 (.u 1))],[z,z,z,z,z,z,z,z,z,z,z,z,z,z,B39,B6,.ro 121 [(0,[u 0,u 65536])] [] 2 true,B71,.bx (.map [])],[.arg,.arg,.cell 14 3,.cell 14 5,.cell 14 6],.v (.t [.a [u 0,.sl 19 0 1 (.u 2),.sl0,.sl 20 0 2 (.u 6),.sl0,.sl0,.sl0,.sl0,.sl 21 0 3 (.u 4),.sl 22 0 1 (.u 2),i 18446744073709551615,i 0,i 0,.sl 23 0 2 (.u 512)],.i0]),[none,none,none,none,none,none,none,none,none,none,none,none,none,none,none,none,none,none,some (.bx (.map [(u 0,.p 24 0)]))],[.ro 121 [(0,[u 0,u 65536])] [] 2 true,B20,B29,.ro 127 [(0,[i 1,.sl 25 0 4 (.u 1)])] [] 2 true,.ro 532 [] [u 0] 1024 true,B5,.ro 129 [(0,[.sl 26 0 1 (.u 2),.sl 27 0 1 (.u 2),.sl 28 0 1 (.u 2),.sl 29 0 1 (.u 2)])] [] 4 true,.ro 192 [(0,[i 0,i 1])] [] 2 true,.ro 192 [(0,[i 1,i 1])] [] 2 true,B80,B80]⟩
noncomputable def t110 : List (Nat × List Memo) := [(35, [m106]), (80, [m108]), (39, [m109])]
theorem t110_ok : ∀ e ∈ t110, ∀ m ∈ e.2, MemoOk Tryz.prog 14 e.1 (unM m) := (hl_cons (hm_cons m106_ok hm_nil) (hl_cons (hm_cons m108_ok hm_nil) (hl_cons (hm_cons m109_ok hm_nil) hl_nil)))
theorem m110_ok : MemoOk Tryz.prog 14 26 (unM m110) := memo_known prog_ok (base := prims0) (dprim := dprims) (mask := maskOf) (d := 400) (l := t110) prims0_ok dprims_ok t110_ok 8 26 (by kernel_rfl)
noncomputable def m111 : Memo := ⟨[.v (.p 14 0),.v (.sl 15 0 12288 (.u 1))],[z,z,z,z,z,z,z,z,z,z,z,z,z,z,B39,B6,.ro 121 [(0,[u 0,u 65536])] [] 2 true,B71,.bx (.map [])],[.arg,.arg,.cell 14 3,.cell 14 5,.cell 14 6],.v (.t [.p 19 0,.i0]),[none,none,none,none,none,none,none,none,none,none,none,none,none,none,none,none,none,none,some (.bx (.map [(u 0,.p 20 0)]))],[.ro 60 [(0,[i 0,i 0,i 0,u 0,.b true,.p 14 0,u 0,.sl 21 0 1 (.u 2),.sl0,.sl 22 0 2 (.u 6),.sl0,.sl0,.sl0,.sl0,.sl 23 0 3 (.u 4),.sl 24 0 1 (.u 2),i 18446744073709551615,i 0,i 0,.sl 25 0 2 (.u 512),u 4096,.sl 26 0 2 (.k 2),.sl 27 0 0 (.k 0),.sl 28 0 2 (.k 2),.sl 29 0 3 (.k 3)])] [] 25 false,B5,.ro 121 [(0,[u 0,u 65536])] [] 2 true,B20,B29,.ro 127 [(0,[i 1,.sl 30 0 4 (.u 1)])] [] 2 true,.ro 532 [] [u 0] 1024 true,B33,.ro 215 [] [] 0 false,B32,.ro 226 [(0,[.sl0,.sl0,.sl0])] [] 3 false,B49,.ro 192 [(0,[i 0,i 1])] [] 2 true,.ro 192 [(0,[i 1,i 1])] [] 2 true,B80,B80]⟩
noncomputable def t111 : List (Nat × List Memo) := [(26, [m110])]
theorem t111_ok : ∀ e ∈ t111, ∀ m ∈ e.2, MemoOk Tryz.prog 14 e.1 (unM m) := (hl_cons (hm_cons m110_ok hm_nil) hl_nil)
theorem m111_ok : MemoOk Tryz.prog 14 14 (unM m111) := memo_known prog_ok (base := prims0) (dprim := dprims) (mask := maskOf) (d := 400) (l := t111) prims0_ok dprims_ok t111_ok 8 14 (by kernel_rfl)
end Ae

/- Known calls of the program, part 7: each is run by the kernel. -/
import Derived.Test.YtafpilamlkhgkaaGreatDoorSR1
import Derived.Test.YtafpilamlkhgkaaGreatDoorSR4
import Derived.Test.YtafpilamlkhgkaaGreatDoorSR6
import Derived.Test.YtafpilamlkhgkaaGreatDoorSC
set_option linter.all false
set_option maxRecDepth 100000
namespace Ae
open Go Go.Proofs
noncomputable def m56 : Memo := ⟨[.v (.a [u 1089536,.sl 14 0 1 (.u 2),.sl 15 0 2 (.u 2),.sl 16 0 2 (.u 6),.sl 17 0 2 (.u 1),.sl 18 0 5 (.u 4),.sl 19 0 1 (.u 5),.sl 20 0 1 (.u 5),.sl0,.sl 21 0 2 (.u 2),i 0,i 0,i 18446744073709551615,.sl 22 0 11 (.u 512)])],[z,z,z,z,z,z,z,z,z,z,z,z,z,z,.ro 134 [(0,[u 1048576,u 8388608])] [] 2 true,B36,B16,B57,B9,B44,B48,B41,B4,B31,B32,B38,B39,B55,B55,B40,B54,B54,B54],[.arg,.arg,.arg,.arg,.arg,.arg,.arg,.arg,.arg,.cell 21 1,.cell 21 3,.cell 23 0,.cell 23 1,.cell 23 2,.cell 23 3,.cell 24 0,.cell 24 1,.cell 24 2,.cell 24 3],.v (.t [.sl 33 0 49152 (.u 1),i 0]),[],[B1]⟩
noncomputable def t56 : List (Nat × List Memo) := [(165, [m54])]
theorem t56_ok : ∀ e ∈ t56, ∀ m ∈ e.2, MemoOk Tryz.prog 14 e.1 (unM m) := (hl_cons (hm_cons m54_ok hm_nil) hl_nil)
theorem m56_ok : MemoOk Tryz.prog 14 89 (unM m56) := memo_known prog_ok (base := (putB (K55 putE))) (dprim := dprims) (mask := maskOf) (d := 400) (l := t56) (putB_ok (K55_ok putE_ok)) dprims_ok t56_ok 8 89 (by kernel_rfl)
noncomputable def m57 : Memo := ⟨[.v (.a [i 0,.s [102,97,109,105,108,121],.sl 14 0 1 (.u 3),.sl 15 0 2 (.u 5),.sl 16 0 5 (.u 10),.sl 17 0 2 (.u 6),.sl 18 0 1 (.u 8),.sl 19 0 1 (.u 6),.sl0,.sl 20 0 2 (.u 4),.sl 21 0 1 (.u 2),.sl 22 0 1 (.u 2),.sl0,.sl0])],[z,z,z,B8,.oc 811 [(9,[1,1,1,1,1]),(32,[1])] 0 256 false,z,z,z,z,z,z,z,z,z,B53,B12,B3,B11,B24,B26,B17,.ro 378 [(0,[i 934,.s [115,46,48]])] [] 2 true,.ro 378 [(0,[i 949,.s [100,97,121]])] [] 2 true,B30,B6,B13,B49,B10,B50,B45,B46,B47],[.arg,.arg,.arg,.arg,.arg,.arg,.arg,.arg,.arg,.cell 15 9,.cell 17 4,.cell 17 10,.cell 17 11,.cell 20 3,.cell 20 7,.cell 27 3,.cell 27 7,.cell 28 3],.v (.t [.a [i 0,.s [102,97,109,105,108,121],.sl 32 0 1 (.u 3),.sl 33 0 2 (.u 5),.sl 34 0 5 (.u 10),.sl 35 0 2 (.u 6),.sl 36 0 1 (.u 8),.sl 37 0 1 (.u 6),.sl0,.sl 38 0 2 (.u 4),.sl 39 0 1 (.u 2),.sl 40 0 1 (.u 2),.sl0,.sl0,.sl 41 0 5 (.u 1),u 1089536,i 12,.sl 42 0 49152 (.u 1)],i 0,i 0]),[],[B53,.ro 137 [(0,[i 57,.s [117,97,114,116],u 4026531840,u 4096,.sl0,i 94,.s [100,105,115,107],u 4026535936,u 8192,.sl 43 0 1 (.u 5)])] [] 10 true,B3,.ro 361 [(0,[i 309,.s [115,46,48],u 0,.b false,.sl 44 0 4 (.u 5),.sl0,i 309,.s [115,46,49],u 1,.b false,.sl 45 0 2 (.u 5),.sl 46 0 1 (.u 4)])] [] 12 true,B24,B26,.ro 364 [(0,[i 690,.s [100,97,121],u 640,.sl 47 0 4 (.u 4),i 868,.s [110,105,103,104,116],u 100,.sl 48 0 1 (.u 4)])] [] 8 true,.ro 378 [(0,[i 934,.s [115,46,48]])] [] 2 true,.ro 378 [(0,[i 949,.s [100,97,121]])] [] 2 true,B29,B1,B30,B6,B13,B49,.ro 394 [(0,[i 740,u 0,.b false,.sl 49 0 1 (.u 4),i 740,u 1,.b false,.sl 50 0 1 (.u 4),i 740,u 2,.b false,.sl0,i 740,u 3,.b false,.sl0])] [] 16 true,.ro 394 [(0,[i 895,u 0,.b false,.sl 51 0 1 (.u 4)])] [] 4 true,B45,B46,B47]⟩
noncomputable def t57 : List (Nat × List Memo) := [(554, [m0]), (26, [m7]), (89, [m56])]
theorem t57_ok : ∀ e ∈ t57, ∀ m ∈ e.2, MemoOk Tryz.prog 14 e.1 (unM m) := (hl_cons (hm_cons m0_ok hm_nil) (hl_cons (hm_cons m7_ok hm_nil) (hl_cons (hm_cons m56_ok hm_nil) hl_nil)))
theorem m57_ok : MemoOk Tryz.prog 14 53 (unM m57) := memo_known prog_ok (base := prims0) (dprim := dprims) (mask := maskOf) (d := 400) (l := t57) prims0_ok dprims_ok t57_ok 8 53 (by kernel_rfl)
end Ae

/- Known calls of the program, part 15: each is run by the kernel. -/
import Derived.Test.YtafpilamlkhgkaaGreatDoorSC
set_option linter.all false
set_option maxRecDepth 100000
namespace Ae
open Go Go.Proofs
noncomputable def m93 : Memo := ⟨[.v (.p 14 0),.v (i 0)],[z,z,z,z,z,z,z,z,z,z,z,z,z,z,B7,.ro 134 [(0,[u 1048576,u 8388608])] [] 2 true,B36,B16,B57,B9,B44,B48,B42,B4,B1,B33,B34,B38,B39,B55,B55,B40,B56,B56,B56],[.arg,.cell 14 1,.cell 14 2,.cell 14 3,.cell 14 4,.cell 14 5,.cell 14 6,.cell 14 7,.cell 14 9,.cell 14 13,.cell 14 14,.cell 22 1,.cell 22 3,.cell 25 0,.cell 25 1,.cell 25 2,.cell 25 3,.cell 26 0,.cell 26 1,.cell 26 2,.cell 26 3],.v (.sl 35 0 8 (.u 6)),[],[.ro 448 [(0,[u 4096,u 1048576,i 1,.b false,.b false,.b true,u 65536,u 1073152,i 1,.b false,.b true,.b false,u 69632,u 1077248,i 1,.b false,.b true,.b false,u 131072,u 1056768,i 1,.b false,.b false,.b false,u 135168,u 1060864,i 1,.b false,.b false,.b false,u 139264,u 1064960,i 1,.b false,.b false,.b false,u 143360,u 1069056,i 1,.b false,.b false,.b false,u 1073741824,u 4026531840,i 1,.b false,.b true,.b false])] [] 48 true]⟩
theorem m93_ok : MemoOk Tryz.prog 14 244 (unM m93) := memo_known prog_ok (base := primsP) (dprim := dprims) (mask := maskOf) (d := 400) (l := []) primsP_ok dprims_ok hl_nil 0 244 (by kernel_rfl)
end Ae

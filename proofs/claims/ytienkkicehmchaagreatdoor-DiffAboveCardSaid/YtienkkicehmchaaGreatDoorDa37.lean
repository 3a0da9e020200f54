/- Texts of this claim, merged by a program of this claim: Tev19. -/
import Derived.Test.YtienkkicehmchaaGreatDoorDa19
import Derived.Test.YtienkkicehmchaaGreatDoorDa24
import Derived.Test.YtienkkicehmchaaGreatDoorDa32
import Derived.Test.YtienkkicehmchaaGreatDoorDa33
import Derived.Test.YtienkkicehmchaaGreatDoorDa34
import Derived.Test.YtienkkicehmchaaGreatDoorDa35
import Derived.Test.YtienkkicehmchaaGreatDoorDa36
import Derived.Test.YtienkkicehmchaaGreatDoorDa7
namespace Go.Proofs.YtienkkicehmchaaGreatDoor
set_option linter.unusedVariables false
set_option linter.unusedSimpArgs false
section
open Go.RowKit
set_option maxRecDepth 1000000
def tb19:List (KR Tryz.prog eqs0):=[.of jkO,.of jjU,.of jqO,.of joE,.of jlq,.of jg4,.of jls,.of jmY,.of jec,.of jhn,.of jd6,.of jfc,.of jaF,.of jcR,.of jcQ,.of je6,.of jcS,.of jfd,.of jd7,.of jaS,.of jaG,.of jcW,.of jd2,.of jba,.of jaL,.of jat,.of jcX,.of jea,.of jjP,.of jmU,.of jpN,.of jlp,.of jfq,.of jm8,.of jfP,.of ja6,.of jiF,.of jeN,.of jhl,.of jd3,.of jm9,.of jna,.of jlr,.of jjk,.of jef,.of jfr,.of jmX,.of jjR,.of jkZ,.of jk0,.of jdk,.of jja,.of jg9,.of jj5,.of jiz,.of jmT,.of jiE,.of jfO,.of jlg,.of jfj,.of jfk,.of jfl,.of jha,.of jlh,.of jj6,.of jhx,.of jeg,.of jfs,.of jcY,.of jeb,.of jbj]
def fz19:List FuncId:=[132,97,24,10,14,15,9,125,127,158,186,95,156,126,92,128,157,129,93,94,41,160,133,134,98,203,189,193,192,164,161,135,100,99,47,48,168,180,166,174,175,195,176,206,196,177,197,178,198,199,179,149,107,106,55,56,143,102,50]
set_option maxHeartbeats 4000000 in
theorem ev19:(evF E0 (tb19.map KR.r) [] fz19 200 (19+1) 9 [] []).map (·.1)=some (.ret (.bool true)):=by kernel_rfl
theorem jnb:TF Tryz.prog E0 9 [] [] (.ret (.bool true)) []:=Alias.run tb19 _ 200 19 ev19
end
end Go.Proofs.YtienkkicehmchaaGreatDoor

/- Texts of this claim, merged by a program of this claim: Tev, KLawR, FLawR, Held, DiffM3. -/
import Derived.Test.YtcfkfgkndncanaaGreatDoorMt10
import Derived.Test.YtcfkfgkndncanaaGreatDoorMt13
import Derived.Test.YtcfkfgkndncanaaGreatDoorMt23
import Derived.Test.YtcfkfgkndncanaaGreatDoorMt25
import Derived.Test.YtcfkfgkndncanaaGreatDoorMt26
import Derived.Test.YtcfkfgkndncanaaGreatDoorMt36
import Derived.Test.YtcfkfgkndncanaaGreatDoorMt41
import Derived.Test.YtcfkfgkndncanaaGreatDoorMt5
namespace Go.Proofs.YtcfkfgkndncanaaGreatDoor
set_option linter.unusedVariables false
set_option linter.unusedSimpArgs false
section
open Go.RowKit
set_option maxRecDepth 1000000
def tb18:List (KR Tryz.prog eqs0):=[.of jnv,.of jmC,.of jtW,.of jrI,.of jnR,.of jmV,.of jfj,.of jeW,.of jcl,.of jfe,.of jd7,.of jhU,.of jff,.of jgf,.of jee,.of jby,.of jbZ,.of jfs,.of jgQ,.of jdE,.of jdw,.of jh0,.of jka,.of jgZ,.of jdg,.of jh8,.of jdK,.of ja8,.of jft,.of jc4,.of jc5,.of je1,.of jdx,.of jdd,.of jgW,.of jco,.of jdX,.of jef,.of jf1,.of jfg,.of jhZ,.of jfk,.of jcJ,.of jeg,.of jb5,.of jde,.of jcu,.of jdf,.of jeh,.of jfx,.of jez,.of jeG,.of jpX,.of jkh]
def fz18:List FuncId:=[92,51,21,96,98,127,129,59,124,97,56,99,114,100,57,58,22,126,119,128,120,121,89,123,122,90,48,113,91,83,84,85,115,86,130,103,65,105,116,87,117,118,88,47,17,16,14,8]
set_option maxHeartbeats 4000000 in
theorem ev18:(evF E0 (tb18.map KR.r) [] fz18 200 (19+1) 8 [] []).map (·.1)=some (.ret (.bool true)):=by kernel_rfl
theorem jp9:TF Tryz.prog E0 8 [] [] (.ret (.bool true)) []:=Alias.run tb18 _ 200 19 ev18
end
section
open Go.RowKit
set_option maxRecDepth 100000
def z99_3:LC:=.seq (.stm [4] [sd 29 (.call 8 []),sd 4 (.mov 29)]) .ret
def z99_2:LC:=.cond 28 z99_3 .skip
def z99_1:LC:=.seq (.stm [2,3,28] [sd 13 (.load true 9 2),sd 14 (.call 7 [13]),sd 15 (.mov 14),.g 15 false [sd 16 (.load true 9 3),sd 17 (.call 7 [16])] 18 (.c (.bool true)) 17,sd 19 (.mov 18),.g 19 false [sd 20 (.load true 9 2),sd 21 (.call 15 [20]),sd 22 (.un .not 21)] 23 (.c (.bool true)) 22,sd 24 (.mov 23),.g 24 false [sd 25 (.load true 9 3),sd 26 (.call 15 [25]),sd 27 (.un .not 26)] 28 (.c (.bool true)) 27]) z99_2
def z99_8:LC:=.seq (.stm [4] [sd 53 (.call 8 []),sd 54 (.mov 53),.g 54 true [sd 55 (.mov 6),sd 56 (.cmp .eql 55 (ki 0))] 57 56 (.c (.bool false)),sd 58 (.mov 57),.g 58 true [sd 59 (.mov 8),sd 60 (.cmp .eql 59 (ki 0))] 61 60 (.c (.bool false)),sd 62 (.mov 61),.g 62 true [sd 63 (.mov 10),sd 64 (.cmp .eql 63 (ki 0))] 65 64 (.c (.bool false)),sd 66 (.mov 65),.g 66 true [sd 67 (.mov 12),sd 68 (.cmp .eql 67 (ki 0))] 69 68 (.c (.bool false)),sd 70 (.mov 69),.g 70 true [sd 71 (.load true 9 9),sd 72 (.load true 9 3),sd 73 (.call 13 [71,72])] 74 73 (.c (.bool false)),sd 75 (.mov 74),.g 75 true [sd 76 (.load true 9 11),sd 77 (.load true 9 3),sd 78 (.call 13 [76,77])] 79 78 (.c (.bool false)),sd 4 (.mov 79)]) .ret
def z99_7:LC:=.seq (.stm [3,6,8,9,10,11,12] [sd 48 (.load true 9 2),sd 49 (.mov 7),sd 50 (.call 11 [48,49]),sd 47 (.mov 50),sd 51 (.ext 47 0),sd 52 (.ext 47 1),sd 11 (.zero [.int .i64 0,.int .i64 0,.nils,.int .i64 0,.int .i64 0,.bool false,.int .u8 0,.str (bs []),.nils]),sn (.store 9 11 51),sd 12 (.mov 52)]) z99_8
def z99_6:LC:=.seq (.stm [2,3,6,7,8,9,10] [sd 42 (.load true 9 2),sd 43 (.mov 5),sd 44 (.call 11 [42,43]),sd 41 (.mov 44),sd 45 (.ext 41 0),sd 46 (.ext 41 1),sd 9 (.zero [.int .i64 0,.int .i64 0,.nils,.int .i64 0,.int .i64 0,.bool false,.int .u8 0,.str (bs []),.nils]),sn (.store 9 9 45),sd 10 (.mov 46)]) z99_7
def z99_5:LC:=.seq (.stm [2,3,5,6,7,8] [sd 37 (.load true 9 3),sd 38 (.call 17 [37]),sd 36 (.mov 38),sd 39 (.ext 36 0),sd 40 (.ext 36 1),sd 7 (.mov 39),sd 8 (.mov 40)]) z99_6
def z99_4:LC:=.seq (.stm [2,3,5,6] [sd 31 (.load true 9 2),sd 32 (.load true 9 3),sd 33 (.call 16 [31,32]),sd 30 (.mov 33),sd 34 (.ext 30 0),sd 35 (.ext 30 1),sd 5 (.mov 34),sd 6 (.mov 35)]) z99_5
def z99_0:LC:=.seq z99_1 z99_4
def z99:LC:=.seq (.stm [2,3] [sd 2 (.box 0),sd 3 (.box 1),sd 4 (.mov (.c (.bool false)))]) z99_0
theorem jiy:jaL Tryz.prog eqs0 4 z99 [.t 4] 80=true:=by kernel_rfl
end
section
open Go.RowKit
set_option maxRecDepth 100000
set_option maxHeartbeats 4000000
noncomputable def sp_fixedE:Spec:=spOf (α:=Unit) (fun _=>[]) fun _=>(True,.ret (.bool true))
theorem jeA:sp_fixedE []=some (True,.ret (.bool true)):=jar (α:=Unit) _ (fun x y h=>rfl) ()
theorem jsG:Alias Tryz.prog E0 8 sp_fixedE:=Alias.of fun _ hG=>(by
 dsimp only at hG ⊢
 exact jp9)
theorem jsH:Fresh Tryz.prog E0 8 sp_fixedE:=Alias.fresh jsG (fun x=>rfl)
end
section
open Go.RowKit
structure Held (p:Prop):Prop where
 out:p
theorem jun {x1 y1 x2 y2:Nat} {h1 h2:Bool}:curC x1 y1 h1 x2 y2 h2=true↔((¬(x2:Int)=x1∨¬(y2:Int)=y1)∨(h2 == h1)=false):=by
 unfold curC
 cases h1 <;> cases h2 <;> simp
theorem jcP (a:Int) (l:List Int):jcF (a :: l)=varN a.toNat++jcF l:=rfl
theorem jhy:jcF []=[]:=rfl
theorem jh9 (a:Nat) (l:List Nat):jbu (a :: l)=varN a++jbu l:=rfl
theorem jki:jbu []=[]:=rfl
theorem jiO {n:Nat} (h:n < 128):varN n=[(n:Int)]:=jd0 h
end
section
open Go.RowKit
def Asc (W:List CD) (l:List Nat):Prop:=∀ j,j+1 < l.length→l.getD j 0+jam W (l.getD j 0)≤l.getD (j+1) 0
theorem Asc.cons {W:List CD} {l:List Nat} {i:Nat} (h:Asc W l) (hi:∀ x∈l,i+jam W i≤x):Asc W (i :: l):=by
 intro j hj
 cases j with
 | zero =>
  cases l with
  | nil=>simp at hj
  | cons y l=>simpa using hi y (by simp)
 | succ j=>simpa using h j (by simpa using hj)
end
end Go.Proofs.YtcfkfgkndncanaaGreatDoor

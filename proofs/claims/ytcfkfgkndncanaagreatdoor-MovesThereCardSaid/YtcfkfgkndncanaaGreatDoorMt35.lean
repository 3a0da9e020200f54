/- Texts of this claim, merged by a program of this claim: ThingM. -/
import Derived.Test.YtcfkfgkndncanaaGreatDoorMt21
import Derived.Test.YtcfkfgkndncanaaGreatDoorMt23
namespace Go.Proofs.YtcfkfgkndncanaaGreatDoor
set_option linter.unusedVariables false
set_option linter.unusedSimpArgs false
section
structure RS where
 k:Int
 r:Int
 L:List CD
 x:Int
 y:Int
 hd:Bool
 mo:Int
 ti:ByteArray
 l:List ByteArray
 more:List ByteArray
 a:Nat
def RS.bad:RS:=⟨0,0,[],0,0,false,0,ja6 [],[],[],0⟩
def th1 (d:List Int) (s:RS):Int × RS :=
 if varE d s.a ≠ 0 then (varE d s.a,.bad) else
 if varE d (s.a+varU d s.a) ≠ 0 then (varE d (s.a+varU d s.a),.bad) else
 if 80 < varV d s.a∨24 < varV d (s.a+varU d s.a)∨varV d s.a * varV d (s.a+varU d s.a)=0 then (3,.bad) else
 (0,⟨varV d s.a,varV d (s.a+varU d s.a),List.replicate ((varV d s.a).toNat * (varV d (s.a+varU d s.a)).toNat) blank0,0,0,false,0,bs [],[],[],s.a+varU d s.a+varU d (s.a+varU d s.a)⟩)
def th2 (d:List Int) (s:RS):Int × RS :=
 if upE d s.a (s.k - 1) ≠ 0 then (upE d s.a (s.k - 1),.bad) else
 if upE d (s.a+varU d s.a) (s.r - 1) ≠ 0 then (upE d (s.a+varU d s.a) (s.r - 1),.bad) else
 if upE d (s.a+varU d s.a+varU d (s.a+varU d s.a)) 1 ≠ 0 then (upE d (s.a+varU d s.a+varU d (s.a+varU d s.a)) 1,.bad) else
 (0,{ s with x:=varV d s.a,y:=varV d (s.a+varU d s.a),hd:=decide (varV d (s.a+varU d s.a+varU d (s.a+varU d s.a))=1),a:=s.a+varU d s.a+varU d (s.a+varU d s.a)+varU d (s.a+varU d s.a+varU d (s.a+varU d s.a)) })
def th3 (d:List Int) (s:RS):Int × RS :=
 if jdq d s.a 64 ≠ 0 then (jdq d s.a 64,.bad) else (0,{ s with ti:=ja6 (jek d s.a 64),a:=s.a+jel d s.a 64 })
def th4 (d:List Int) (s:RS):Int × RS :=
 if upE d s.a 2 ≠ 0 then (upE d s.a 2,.bad) else (0,{ s with mo:=varV d s.a,a:=s.a+varU d s.a })
def th5 (d:List Int) (s:RS):Int × RS :=
 if (lkG d s.a s.l).1 ≠ 0 then ((lkG d s.a s.l).1,.bad) else (0,{ s with more:=(lkG d s.a s.l).2.2,L:=s.L.map (ulf s.l (lkG d s.a s.l).2.2),a:=(lkG d s.a s.l).2.1 })
def jj9 (n:Int):Int:=if n % 2=0 then -n / 2 else (n+1) / 2
def th6 (d:List Int) (s:RS):Int × RS :=
 if upE d s.a (2 * s.r - 2) ≠ 0 then (upE d s.a (2 * s.r - 2),.bad) else
 if varV d s.a=0 then (3,.bad) else
 (0,{ s with L:=(jbX (ja4 s.L s.k.toNat s.r.toNat) (jj9 (varV d s.a))).flatten,a:=s.a+varU d s.a })
def th7 (d:List Int) (s:RS):Int × RS :=
 if (cpsG d s.a s.k.toNat s.r.toNat s.L).1 ≠ 0 then ((cpsG d s.a s.k.toNat s.r.toNat s.L).1,.bad) else
 (0,{ s with L:=(cpsG d s.a s.k.toNat s.r.toNat s.L).2.2,a:=(cpsG d s.a s.k.toNat s.r.toNat s.L).2.1 })
def th8 (d:List Int) (s:RS):Int × RS :=
 if (rnsG d s.a s.k.toNat s.more.length s.L).1 ≠ 0 then ((rnsG d s.a s.k.toNat s.more.length s.L).1,.bad) else
 (0,{ s with L:=(rnsG d s.a s.k.toNat s.more.length s.L).2.2,a:=(rnsG d s.a s.k.toNat s.more.length s.L).2.1 })
def thG (d:List Int) (kd:Int) (s:RS):Int × RS :=
 if kd=1 then th1 d s else if kd=2 then th2 d s else if kd=3 then th3 d s else if kd=4 then th4 d s else
 if kd=5 then th5 d s else if kd=6 then th6 d s else if kd=7 then th7 d s else th8 d s
end
end Go.Proofs.YtcfkfgkndncanaaGreatDoor

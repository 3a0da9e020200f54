/- Texts of this claim, merged by a program of this claim: FUtf, FUtf2. -/
import Derived.Test.YtienkkicehmchaaGreatDoorDl5
import Derived.Test.YtienkkicehmchaaGreatDoorDl6
import Derived.Test.YtienkkicehmchaaGreatDoorDl7
import Derived.Test.YtienkkicehmchaaGreatDoorDl8
namespace Go.Proofs.YtienkkicehmchaaGreatDoor
open Cos renaming intro→qaa
open Bool renaming false_eq_true→qab,and_eq_false_iff→qad
open And renaming intro→qac
noncomputable section
set_option linter.unusedVariables false
set_option linter.unusedSimpArgs false
section
open Go.RowKit
set_option maxRecDepth 100000
set_option maxHeartbeats 4000000
namespace Utf
def nones:List (List Int):=[[768,879],[8203,8207],[65024,65039]]
def wides:List (List Int):=[[4352,4447],[11904,12350],[12353,42191],[44032,55203],[63744,64255],[65072,65135],[65280,65376],[65504,65510],[127744,128591],[131072,262141]]
def hit (l:List (List Int)) (r:Int):Bool:=l.any fun p=>decide (p.getD 0 0≤r)&&decide (r≤p.getD 1 0)
def noWidth (r:Int):Bool:=decide (r<32) || (decide (127≤r)&&decide (r≤159)) || (decide (55296≤r)&&decide (r≤57343)) || decide (1114111<r)
def width (r:Int):Int:=if noWidth r then 0 else if hit nones r then 0 else if hit wides r then 2 else 1
theorem hit_snoc (l:List (List Int)) (k:Nat) (h:k<l.length) (r lo hi:Int) (e:l[k]?=some [lo,hi]):hit (l.take (k+1)) r=(hit (l.take k) r || (decide (lo≤r)&&decide (r≤hi))):=by
 have:l.take (k+1)=l.take k++[[lo,hi]]:=by
  rw[List.take_succ_eq_append_getElem h]
  rw[List.getElem?_eq_getElem h]at e
  rw[Option.some.inj e]
 unfold hit
 rw[this,List.any_append]
 simp
end Utf
abbrev I32 (r:Int):Prop:=-2147483648≤r∧r≤2147483647
abbrev q_r7may (r:Int):QA:=([.int .i32 r],I32 r,.ret (.bool (Utf.may r)))
def sp_r7may:=spQ (u1 q_r7may)
theorem jfF:W1 (hA sp_r7may) q_r7may:=w1 (aA rfl)
theorem juu:Al 90 sp_r7may:=ofA (u1 q_r7may) fun r hG=>tfi .nil 0 jgf (by
 dsimp only[u1,q_r7may]at hG ⊢
 repeat' first|refine tU ?_|refine qaa [] [] rfl ?_|refine qac ?_ ?_|(refine tI ?_;intro hyp)|intro hyp0|exact tZ|omega
 rfl)
theorem jlj:Fre 90 sp_r7may:=ofF (u1 q_r7may) juu fun _=>rfl
abbrev q_r7in (r lo hi:Int):QA:=([.int .i32 r,.int .i32 lo,.int .i32 hi],I32 r∧I32 lo∧I32 hi,.ret (.bool (decide (lo≤r)&&decide (r≤hi))))
def sp_r7in:=spQ (u3 q_r7in)
theorem jp3:W3 (hA sp_r7in) q_r7in:=w3 (aA rfl)
theorem jwx:Al 91 sp_r7in:=ofA (u3 q_r7in) fun⟨r,lo,hi⟩ hG=>tfi .nil 0 joY (by
 dsimp only[u3,q_r7in]at hG ⊢
 repeat' first|refine tU ?_|refine qaa [] [] rfl ?_|refine qac ?_ ?_|(refine tI ?_;intro hyp)|intro hyp0|exact tZ|omega)
theorem jwy:Fre 91 sp_r7in:=ofF (u3 q_r7in) jwx fun _=>rfl
abbrev q_r7width (r:Int):QA:=([.int .i32 r],I32 r,.ret (.int .i64 (Utf.width r)))
def sp_r7width:=spQ (u1 q_r7width)
theorem jgg:W1 (hA sp_r7width) q_r7width:=w1 (aA rfl)
theorem jp4:Al 40 sp_r7width:=ofA (u1 q_r7width) fun r hG=>tfi (.f [.any] jgf jlj (.f [.any,.any,.any] joY jwy .nil)) 0 jfD (by
 dsimp only[u1,q_r7width]at hG ⊢
 have zc:=Hk.mk (qac @jfF @jp3)
 repeat' first|refine tU ?_|refine qaa [] [] rfl ?_|refine qac ?_ ?_|(refine tI ?_;intro hyp)|intro hyp0|exact tZ|omega
 all_goals
  simp only[Utf.width,Utf.noWidth,Utf.hit,Utf.nones,Utf.wides,List.any_cons,List.any_nil,List.getD_cons_zero,List.getD_cons_succ,Bool.or_false]
  simp only[Utf.may,HB,ne_eq,reduceCtorEq]at *
  repeat' split
  all_goals (first|omega|(simp only[HB,ne_eq,reduceCtorEq]at *;omega)|(simp only[HB,ne_eq,reduceCtorEq]at *;done)|simp_all))
theorem jke:Fre 40 sp_r7width:=ofF (u1 q_r7width) jp4 fun _=>rfl
abbrev q_r7enc (r:Int):QA:=([.int .i32 r],I32 r,.ret (.vec (.int .u8) (Utf.enc r)))
def sp_r7enc:=spQ (u1 q_r7enc)
theorem jnO:W1 (hA sp_r7enc) q_r7enc:=w1 (aA rfl)
theorem juv:Fre 123 sp_r7enc:=ofT (u1 q_r7enc) fun r hG=>tfi (.f [.any] jgf jlj .nil) 0 jhv (by
 dsimp only[u1,q_r7enc]at hG ⊢
 have zc:=Hk.mk (@jfF)
 repeat' first|refine tU ?_|refine Cos.row (t:=.int .u8) rfl ?_ rfl (Nat.le_refl _)|refine qac ?_ ?_|(refine tI ?_;intro hyp)|intro hyp0|exact tZ|omega
 all_goals
  simp only[Utf.enc,Utf.enc1]
  have hm:=Utf.may_iff r
  simp_all
 all_goals
  (repeat' rw[if_neg (by omega)])
  try rw[if_pos (by omega)]
  try (simp only[List.cons.injEq,and_true])
  (repeat' apply qac)
  all_goals first|(rw[w_u8 (by omega)];done)|(rw[w_u8 (by omega)];omega)|rfl)
end
section
open Go.RowKit
set_option maxRecDepth 100000
set_option maxHeartbeats 4000000
theorem jx1 (b:List Int) (h:∀a∈b,Utf.Byte a):-100000000≤Utf.num b∧Utf.num b≤100000000:=by
 rcases b with _|⟨a,_|⟨a2,_|⟨a3,_|⟨a4,_|⟨a5,l⟩⟩⟩⟩⟩<;>simp only[Utf.num]<;>simp[Utf.Byte]at h<;>omega
theorem jiT {b:List Int}(h:∀a∈b,Utf.Byte a) (i:Nat):0≤b.getD i 0∧b.getD i 0≤255:=by
 rw[List.getD_eq_getElem?_getD]
 cases e:b[i]? with
 | none=>simp
 | some x =>
  have:=h x (List.mem_of_getElem? e)
  simp only[Utf.Byte]at this
  simp only[Option.getD_some]
  omega
theorem jys {b:List Int}(h:(b.length:Int)=1):b.getD 0 0=Utf.num b:=by
 match b,h with
 | [a],_=>rfl
theorem jyt {b:List Int}(h:(b.length:Int)=2):(b.getD 0 0-192)*64+b.getD 1 0-128=Utf.num b:=by
 match b,h with
 | [a,c],_=>rfl
theorem jyu {b:List Int}(h:(b.length:Int)=3):(b.getD 0 0-224)*4096+(b.getD 1 0-128)*64+b.getD 2 0-128=Utf.num b:=by
 match b,h with
 | [a,c,d],_=>rfl
theorem jyv {b:List Int}(h:(b.length:Int)=4):(b.getD 0 0-240)*262144+(b.getD 1 0-128)*4096+(b.getD 2 0-128)*64+b.getD 3 0-128=Utf.num b:=by
 match b,h with
 | [a,c,d,e],_=>rfl
theorem jvH {b:List Int}(h1:¬(b.length:Int)=1) (h2:¬(b.length:Int)=2) (h3:¬(b.length:Int)=3) (h4:¬(b.length:Int)=4):Utf.wholeB b=false:=by
 match b,h1,h2,h3,h4 with
 | [],_,_,_,_=>rfl
 | [_],h,_,_,_=>simp at h
 | [_,_],_,h,_,_=>simp at h
 | [_,_,_],_,_,h,_=>simp at h
 | [_,_,_,_],_,_,_,h=>simp at h
 | _::_::_::_::_::l,_,_,_,_=>simp[Utf.wholeB,Utf.num]
abbrev q_r7whole (b:List Int):QA:=([.vec (.int .u8) b],∀a∈b,Utf.Byte a,.ret (.tup [.int .i32 (Utf.wholeN b),.bool (Utf.wholeB b)]))
def sp_r7whole:=spQ (u1 q_r7whole)
theorem jcD:W1 (hA sp_r7whole) q_r7whole:=w1 (aA rfl)
theorem jp5 : Al 87 sp_r7whole := ofA (u1 q_r7whole) fun b hG => tfi (.f [.any] jgf jlj (.f [.any] jhv juv .nil)) 0 jcS (by
  dsimp only [u1, q_r7whole] at hG ⊢
  have zc := Hk.mk (qac @jfF @jnO)
  have hn := jx1 b hG
  have b0 := jiT hG 0
  have b1 := jiT hG 1
  have b2 := jiT hG 2
  have b3 := jiT hG 3
  repeat' first | refine T.cut (a := z4_2) (fun n : Int => ⟨[(0, .vec (.int .u8) b), (4, .int .i64 n)], []⟩) (fun n => n = Utf.num b ∧ 1 ≤ b.length ∧ b.length ≤ 4 ∧ IntKind.i32.wrap n = n) ?_ (fun n ⟨e, h1, h4, hw⟩ => ?_) | refine tU ?_ | refine qaa [] [] rfl ?_ | exact ⟨_, ⟨jys hyp, by omega, by omega, jun (by omega)⟩, (qaa [] [] rfl (by exact tG))⟩ | exact ⟨_, ⟨jyt hyp, by omega, by omega, jun (by omega)⟩, (qaa [] [] rfl (by exact tG))⟩ | exact ⟨_, ⟨jyu hyp, by omega, by omega, jun (by omega)⟩, (qaa [] [] rfl (by exact tG))⟩ | exact ⟨_, ⟨jyv hyp, by omega, by omega, jun (by omega)⟩, (qaa [] [] rfl (by exact tG))⟩ | refine qac ?_ ?_ | (refine tI ?_; intro hyp) | intro hyp0 | exact tZ | omega
  all_goals first
    | (rw [jvH ‹_› ‹_› ‹_› ‹_›]; done)
    | (have hf : Utf.wholeB b = false := jvH ‹_› ‹_› ‹_› ‹_›
       simp only [Utf.wholeN, hf, qab, if_false])
    | (have hf : Utf.wholeB b = false := by
         simp only [Utf.wholeB, ← e, qad, decide_eq_false_iff_not]
         omega
       simp only [Utf.wholeN, hf, qab, if_false])
    | (have hf : Utf.wholeB b = false := by
         simp only [Utf.wholeB, ← e, qad, beq_eq_false_iff_ne]
         rcases hyp with q | q
         · exact .inl (.inr q)
         · exact .inr (fun q2 => q (by rw [q2]))
       simp only [Utf.wholeN, hf, qab, if_false])
    | skip
  refine T.loop (fun k : Nat => ⟨[(0, .vec (.int .u8) b), (4, .int .i64 n), (5, .vec (.int .u8) (Utf.enc n)), (99, .int .i64 (Utf.enc n).length), (100, .int .i64 k)], []⟩) (fun k => k ≤ b.length ∧ ∀ j, j < k → (Utf.enc n)[j]? = b[j]?) (fun k => b.length - k) 0 ⟨by omega, fun j hj => by omega⟩ (qaa [] [] rfl (by exact tG)) (fun k ⟨hk, hall⟩ => ?_)
  have whole_no : Utf.enc n ≠ b → Utf.wholeB b = false := fun q => by
    simp only [Utf.wholeB, ← e, qad, beq_eq_false_iff_ne]
    exact .inr q
  have hlen : (Utf.enc n).length = b.length := by omega
  repeat' first | refine tU ?_ | refine qaa [] [] rfl ?_ | exact ⟨k + 1, ⟨by omega, jdD (by omega) (by omega) hyp hall⟩, by omega, (qaa [] [] rfl (by exact tG))⟩ | refine qac ?_ ?_ | (refine tI ?_; intro hyp) | intro hyp0 | exact tZ | omega
  all_goals first
    | (rw [whole_no (fun q => by rw [q] at hyp; exact hyp rfl)]; done)
    | (simp only [Utf.wholeN, whole_no (fun q => by rw [q] at hyp; exact hyp rfl), qab, if_false]; done)
    | (have hq : Utf.enc n = b := je2 hlen (by omega) hall
       have ht : Utf.wholeB b = true := by
         simp only [Utf.wholeB, ← e, Bool.and_eq_true, decide_eq_true_eq, beq_iff_eq]
         exact ⟨⟨by omega, by simp_all⟩, hq⟩
       simp only [Utf.wholeN, ht, if_true, e]))
theorem je3:Fre 87 sp_r7whole:=ofF (u1 q_r7whole) jp5 fun _=>rfl
end
end
end Go.Proofs.YtienkkicehmchaaGreatDoor

/- Texts of this claim, merged by a program of this claim: FUtf, FUtf2. -/
import Derived.Test.YtienkkicehmchaaGreatDoorDa5
import Derived.Test.YtienkkicehmchaaGreatDoorDa7
import Derived.Test.YtienkkicehmchaaGreatDoorDa8
namespace Go.Proofs.YtienkkicehmchaaGreatDoor
set_option linter.unusedVariables false
set_option linter.unusedSimpArgs false
section
open Go.RowKit
set_option maxRecDepth 100000
set_option maxHeartbeats 4000000
namespace Utf
def nones:List (List Int):=[[768,879],[8203,8207],[65024,65039]]
def wides:List (List Int):=[[4352,4447],[11904,12350],[12353,42191],[44032,55203],[63744,64255],[65072,65135],[65280,65376],[65504,65510],[127744,128591],[131072,262141]]
def hit (l:List (List Int)) (r:Int):Bool:=l.any fun p=>decide (p.getD 0 0≤r)&&decide (r≤p.getD 1 0)
def noWidth (r:Int):Bool:=decide (r<32) || (decide (127≤r)&&decide (r≤159)) || (decide (55296≤r)&&decide (r≤57343)) || decide (1114111<r)
def width (r:Int):Int:=if noWidth r then 0 else if hit nones r then 0 else if hit wides r then 2 else 1
theorem hit_snoc (l:List (List Int)) (k:Nat) (h:k<l.length) (r lo hi:Int) (e:l[k]?=some [lo,hi]):hit (l.take (k+1)) r=(hit (l.take k) r || (decide (lo≤r)&&decide (r≤hi))):=by
 have:l.take (k+1)=l.take k++[[lo,hi]]:=by
  rw[List.take_succ_eq_append_getElem h]
  rw[List.getElem?_eq_getElem h]at e
  rw[Option.some.inj e]
 unfold hit
 rw[this,List.any_append]
 simp
end Utf
abbrev I32 (r:Int):Prop:=-2147483648≤r∧r≤2147483647
abbrev jkA (r:Int):List CV:=[.int .i32 r]
abbrev jkB (r:Int):Prop×Res:=(I32 r,.ret (.bool (Utf.may r)))
noncomputable def sp_r7may:Spec:=spOf (α:=Int) (fun r=>jkA r) fun r=>jkB r
theorem jaC (r:Int):sp_r7may (jkA r)=some (jkB r):=jad _ injS r
theorem jqD:Alias Tryz.prog E0 90 sp_r7may:=Alias.of fun r hG=>TF.intro (V:=(VV [] GOk.nil 17 0)) jew rfl rfl (by
 dsimp only[jkA,jkB]at hG ⊢
 repeat' first|simp only[SA,seval,rdB]|refine tT ?_|refine Cos.intro [] [] rfl ?_|refine And.intro ?_ ?_|exact tC|(refine tI ?_;intro hyp)|intro hyp0|omega
 rfl)
theorem jit:Fresh Tryz.prog E0 90 sp_r7may:=Alias.fresh jqD (fun x=>rfl)
abbrev jn3 (r:Int) (lo:Int) (hi:Int):List CV:=[.int .i32 r,.int .i32 lo,.int .i32 hi]
abbrev jn4 (r:Int) (lo:Int) (hi:Int):Prop×Res:=(I32 r∧I32 lo∧I32 hi,.ret (.bool (decide (lo≤r)&&decide (r≤hi))))
noncomputable def sp_r7in:Spec:=spOf (α:=Int×Int×Int) (fun⟨r,lo,hi⟩=>jn3 r lo hi) fun⟨r,lo,hi⟩=>jn4 r lo hi
theorem jmE (r:Int) (lo:Int) (hi:Int):sp_r7in (jn3 r lo hi)=some (jn4 r lo hi):=jad _ injS (r,lo,hi)
theorem jsj:Alias Tryz.prog E0 91 sp_r7in:=Alias.of fun⟨r,lo,hi⟩ hG=>TF.intro (V:=(VV [] GOk.nil 15 0)) jlU rfl rfl (by
 dsimp only[jn3,jn4]at hG ⊢
 repeat' first|simp only[SA,seval,rdB]|refine tT ?_|refine Cos.intro [] [] rfl ?_|refine And.intro ?_ ?_|exact tC|(refine tI ?_;intro hyp)|intro hyp0|omega)
theorem jsk:Fresh Tryz.prog E0 91 sp_r7in:=Alias.fresh jsj (fun x=>rfl)
abbrev jgA (r:Int):List CV:=[.int .i32 r]
abbrev jgB (r:Int):Prop×Res:=(I32 r,.ret (.int .i64 (Utf.width r)))
noncomputable def sp_r7width:Spec:=spOf (α:=Int) (fun r=>jgA r) fun r=>jgB r
theorem jaV (r:Int):sp_r7width (jgA r)=some (jgB r):=jad _ injS r
theorem jmF:Alias Tryz.prog E0 40 sp_r7width:=Alias.of fun r hG=>TF.intro (V:=(VV [(90,conF [.any] sp_r7may),(91,conF [.any,.any,.any] sp_r7in)] (.cons (jaa jew) (Fresh.soundF jit) (.cons (jaa jlU) (Fresh.soundF jsk) GOk.nil)) 64 0)) jd1 rfl rfl (by
 dsimp only[jgA,jgB]at hG ⊢
 repeat' first|simp only[SA,seval,rdB,jaC,jmE]|refine tT ?_|refine Cos.intro [] [] rfl ?_|refine And.intro ?_ ?_|exact tC|(refine tI ?_;intro hyp)|intro hyp0|omega
 all_goals
  simp only[Utf.width,Utf.noWidth,Utf.hit,Utf.nones,Utf.wides,List.any_cons,List.any_nil,List.getD_cons_zero,List.getD_cons_succ,Bool.or_false]
  simp only[Utf.may,HB,ne_eq,reduceCtorEq]at *
  repeat' split
  all_goals (first|omega|(simp only[HB,ne_eq,reduceCtorEq]at *;omega)|(simp only[HB,ne_eq,reduceCtorEq]at *;done)|simp_all))
theorem jhM:Fresh Tryz.prog E0 40 sp_r7width:=Alias.fresh jmF (fun x=>rfl)
abbrev jkC (r:Int):List CV:=[.int .i32 r]
abbrev jkD (r:Int):Prop×Res:=(I32 r,.ret (.vec (.int .u8) (Utf.enc r)))
noncomputable def sp_r7enc:Spec:=spOf (α:=Int) (fun r=>jkC r) fun r=>jkD r
theorem jaQ (r:Int):sp_r7enc (jkC r)=some (jkD r):=jad _ injS r
theorem jqE:Fresh Tryz.prog E0 123 sp_r7enc:=Fresh.of fun r hG=>TF.intro (V:=(VV [(90,conF [.any] sp_r7may)] (.cons (jaa jew) (Fresh.soundF jit) GOk.nil) 60 0)) jfz rfl rfl (by
 dsimp only[jkC,jkD]at hG ⊢
 repeat' first|simp only[SA,seval,rdB,jaC]|refine tT ?_|refine Cos.row (t:=.int .u8) rfl ?_ rfl (Nat.le_refl _)|refine And.intro ?_ ?_|exact tC|(refine tI ?_;intro hyp)|intro hyp0|omega
 all_goals
  simp only[Utf.enc,Utf.enc1]
  have hm:=Utf.may_iff r
  simp_all
 all_goals
  (repeat' rw[if_neg (by omega)])
  try rw[if_pos (by omega)]
  try (simp only[List.cons.injEq,and_true])
  (repeat' apply And.intro)
  all_goals first|(rw[w_u8 (by omega)];done)|(rw[w_u8 (by omega)];omega)|rfl)
end
section
open Go.RowKit
set_option maxRecDepth 100000
set_option maxHeartbeats 4000000
theorem jtU (b:List Int) (h:∀a∈b,Utf.Byte a):-100000000≤Utf.num b∧Utf.num b≤100000000:=by
 rcases b with _|⟨a,_|⟨a2,_|⟨a3,_|⟨a4,_|⟨a5,l⟩⟩⟩⟩⟩<;>simp only[Utf.num]<;>simp[Utf.Byte]at h<;>omega
theorem jgC {b:List Int}(h:∀a∈b,Utf.Byte a) (i:Nat):0≤b.getD i 0∧b.getD i 0≤255:=by
 rw[List.getD_eq_getElem?_getD]
 cases e:b[i]? with
 | none=>simp
 | some x =>
  have:=h x (List.mem_of_getElem? e)
  simp only[Utf.Byte]at this
  simp only[Option.getD_some]
  omega
theorem jul {b:List Int}(h:(b.length:Int)=1):b.getD 0 0=Utf.num b:=by
 match b,h with
 | [a],_=>rfl
theorem jum {b:List Int}(h:(b.length:Int)=2):(b.getD 0 0-192)*64+b.getD 1 0-128=Utf.num b:=by
 match b,h with
 | [a,c],_=>rfl
theorem jun {b:List Int}(h:(b.length:Int)=3):(b.getD 0 0-224)*4096+(b.getD 1 0-128)*64+b.getD 2 0-128=Utf.num b:=by
 match b,h with
 | [a,c,d],_=>rfl
theorem juo {b:List Int}(h:(b.length:Int)=4):(b.getD 0 0-240)*262144+(b.getD 1 0-128)*4096+(b.getD 2 0-128)*64+b.getD 3 0-128=Utf.num b:=by
 match b,h with
 | [a,c,d,e],_=>rfl
theorem jrq {b:List Int}(h1:¬(b.length:Int)=1) (h2:¬(b.length:Int)=2) (h3:¬(b.length:Int)=3) (h4:¬(b.length:Int)=4):Utf.wholeB b=false:=by
 match b,h1,h2,h3,h4 with
 | [],_,_,_,_=>rfl
 | [_],h,_,_,_=>simp at h
 | [_,_],_,h,_,_=>simp at h
 | [_,_,_],_,_,h,_=>simp at h
 | [_,_,_,_],_,_,_,h=>simp at h
 | _::_::_::_::_::l,_,_,_,_=>simp[Utf.wholeB,Utf.num]
abbrev jgD (b:List Int):List CV:=[.vec (.int .u8) b]
abbrev jgE (b:List Int):Prop×Res:=(∀a∈b,Utf.Byte a,.ret (.tup [.int .i32 (Utf.wholeN b),.bool (Utf.wholeB b)]))
noncomputable def sp_r7whole:Spec:=spOf (α:=(List Int)) (fun b=>jgD b) fun b=>jgE b
theorem jab (b:List Int):sp_r7whole (jgD b)=some (jgE b):=jad _ injS b
theorem jmG : Alias Tryz.prog E0 87 sp_r7whole := Alias.of fun b hG => TF.intro (V := (VV [(90, conF [.any] sp_r7may), (123, conF [.any] sp_r7enc)] (.cons (jaa jew) (Fresh.soundF jit) (.cons (jaa jfz) (Fresh.soundF jqE) GOk.nil)) 115 0)) jb2 rfl rfl (by
  dsimp only [jgD, jgE] at hG ⊢
  have hn := jtU b hG
  have b0 := jgC hG 0
  have b1 := jgC hG 1
  have b2 := jgC hG 2
  have b3 := jgC hG 3
  repeat' first | refine T.cut (a := z4_2) (fun n : Int => ⟨[(0, .vec (.int .u8) b), (4, .int .i64 n)], []⟩) (fun n => n = Utf.num b ∧ 1 ≤ b.length ∧ b.length ≤ 4 ∧ IntKind.i32.wrap n = n) ?_ (fun n ⟨e, h1, h4, hw⟩ => ?_) | simp only [SA, seval, rdB, jaC, jaQ] | simp only [hw] | refine tT ?_ | refine Cos.intro [] [] rfl ?_ | exact ⟨_, ⟨jul hyp, by omega, by omega, jqw (by omega)⟩, (Cos.intro [] [] rfl (by (simp only [SA, seval, rdB, jaC, jaQ]); first | done | (repeat' apply And.intro) <;> first | rfl | omega | simp))⟩ | exact ⟨_, ⟨jum hyp, by omega, by omega, jqw (by omega)⟩, (Cos.intro [] [] rfl (by (simp only [SA, seval, rdB, jaC, jaQ]); first | done | (repeat' apply And.intro) <;> first | rfl | omega | simp))⟩ | exact ⟨_, ⟨jun hyp, by omega, by omega, jqw (by omega)⟩, (Cos.intro [] [] rfl (by (simp only [SA, seval, rdB, jaC, jaQ]); first | done | (repeat' apply And.intro) <;> first | rfl | omega | simp))⟩ | exact ⟨_, ⟨juo hyp, by omega, by omega, jqw (by omega)⟩, (Cos.intro [] [] rfl (by (simp only [SA, seval, rdB, jaC, jaQ]); first | done | (repeat' apply And.intro) <;> first | rfl | omega | simp))⟩ | refine And.intro ?_ ?_ | exact tC | (refine tI ?_; intro hyp) | intro hyp0 | omega
  all_goals first
    | (rw [jrq ‹_› ‹_› ‹_› ‹_›]; done)
    | (have hf : Utf.wholeB b = false := jrq ‹_› ‹_› ‹_› ‹_›
       simp only [Utf.wholeN, hf, Bool.false_eq_true, if_false])
    | (have hf : Utf.wholeB b = false := by
         simp only [Utf.wholeB, ← e, Bool.and_eq_false_iff, decide_eq_false_iff_not]
         omega
       simp only [Utf.wholeN, hf, Bool.false_eq_true, if_false])
    | (have hf : Utf.wholeB b = false := by
         simp only [Utf.wholeB, ← e, Bool.and_eq_false_iff, beq_eq_false_iff_ne]
         rcases hyp with q | q
         · exact .inl (.inr q)
         · exact .inr (fun q2 => q (by rw [q2]))
       simp only [Utf.wholeN, hf, Bool.false_eq_true, if_false])
    | skip
  refine T.loop (fun k : Nat => ⟨[(0, .vec (.int .u8) b), (4, .int .i64 n), (5, .vec (.int .u8) (Utf.enc n)), (99, .int .i64 (Utf.enc n).length), (100, .int .i64 k)], []⟩) (fun k => k ≤ b.length ∧ ∀ j, j < k → (Utf.enc n)[j]? = b[j]?) (fun k => b.length - k) 0 ⟨by omega, fun j hj => by omega⟩ (Cos.intro [] [] rfl (by (simp only [SA, seval, rdB, jaC, jaQ]); first | done | (repeat' apply And.intro) <;> first | rfl | omega | simp)) (fun k ⟨hk, hall⟩ => ?_)
  have whole_no : Utf.enc n ≠ b → Utf.wholeB b = false := fun q => by
    simp only [Utf.wholeB, ← e, Bool.and_eq_false_iff, beq_eq_false_iff_ne]
    exact .inr q
  have hlen : (Utf.enc n).length = b.length := by omega
  repeat' first | simp only [SA, seval, rdB, jaC, jaQ] | simp only [hw] | refine tT ?_ | refine Cos.intro [] [] rfl ?_ | exact ⟨k + 1, ⟨by omega, jjL (by omega) (by omega) hyp hall⟩, by omega, (Cos.intro [] [] rfl (by (simp only [SA, seval, rdB, jaC, jaQ]); first | done | (repeat' apply And.intro) <;> first | rfl | omega | simp))⟩ | refine And.intro ?_ ?_ | exact tC | (refine tI ?_; intro hyp) | intro hyp0 | omega
  all_goals first
    | (rw [whole_no (fun q => by rw [q] at hyp; exact hyp rfl)]; done)
    | (simp only [Utf.wholeN, whole_no (fun q => by rw [q] at hyp; exact hyp rfl), Bool.false_eq_true, if_false]; done)
    | (have hq : Utf.enc n = b := jlW hlen (by omega) hall
       have ht : Utf.wholeB b = true := by
         simp only [Utf.wholeB, ← e, Bool.and_eq_true, decide_eq_true_eq, beq_iff_eq]
         exact ⟨⟨by omega, by simp_all⟩, hq⟩
       simp only [Utf.wholeN, ht, if_true, e]))
theorem jdt:Fresh Tryz.prog E0 87 sp_r7whole:=Alias.fresh jmG (fun x=>rfl)
end
end Go.Proofs.YtienkkicehmchaaGreatDoor

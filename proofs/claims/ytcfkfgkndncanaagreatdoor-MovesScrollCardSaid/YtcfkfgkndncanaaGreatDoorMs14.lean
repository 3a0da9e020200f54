/- Texts of this claim, merged by a program of this claim: FUtf, FUtf2. -/
import Derived.Test.YtcfkfgkndncanaaGreatDoorMs13
import Derived.Test.YtcfkfgkndncanaaGreatDoorMs5
import Derived.Test.YtcfkfgkndncanaaGreatDoorMs6
namespace Go.Proofs.YtcfkfgkndncanaaGreatDoor
set_option linter.unusedVariables false
set_option linter.unusedSimpArgs false
section
open Go.RowKit
set_option maxRecDepth 100000
set_option maxHeartbeats 4000000
namespace Utf
def nones:List (List Int):=[[768,879],[8203,8207],[65024,65039]]
def wides:List (List Int):=[[4352,4447],[11904,12350],[12353,42191],[44032,55203],[63744,64255],[65072,65135],[65280,65376],[65504,65510],[127744,128591],[131072,262141]]
def hit (l:List (List Int)) (r:Int):Bool:=l.any fun p=>decide (p.getD 0 0≤r)&&decide (r≤p.getD 1 0)
def noWidth (r:Int):Bool:=decide (r<32) || (decide (127≤r)&&decide (r≤159)) || (decide (55296≤r)&&decide (r≤57343)) || decide (1114111<r)
def width (r:Int):Int:=if noWidth r then 0 else if hit nones r then 0 else if hit wides r then 2 else 1
theorem hit_snoc (l:List (List Int)) (k:Nat) (h:k<l.length) (r lo hi:Int) (e:l[k]?=some [lo,hi]):hit (l.take (k+1)) r=(hit (l.take k) r || (decide (lo≤r)&&decide (r≤hi))):=by
 have:l.take (k+1)=l.take k++[[lo,hi]]:=by
  rw[List.take_succ_eq_append_getElem h]
  rw[List.getElem?_eq_getElem h]at e
  rw[Option.some.inj e]
 unfold hit
 rw[this,List.any_append]
 simp
end Utf
abbrev I32 (r:Int):Prop:=-2147483648≤r∧r≤2147483647
abbrev jpX (r:Int):List CV:=[.int .i32 r]
abbrev jpY (r:Int):Prop×Res:=(I32 r,.ret (.bool (Utf.may r)))
noncomputable def sp_r7may:Spec:=spOf (α:=Int) (fun r=>jpX r) fun r=>jpY r
theorem jbX (r:Int):sp_r7may (jpX r)=some (jpY r):=jak _ injS r
theorem jys:Alias Tryz.prog E0 81 sp_r7may:=Alias.of fun r hG=>TF.intro (V:=(VV [] GOk.nil 17 0)) jhP rfl rfl (by
 dsimp only[jpX,jpY]at hG ⊢
 repeat' first|simp only[SA,seval,rdB]|refine tT ?_|refine Cos.intro [] [] rfl ?_|refine And.intro ?_ ?_|exact tC|(refine tI ?_;intro hyp)|intro hyp0|omega
 rfl)
theorem jm9:Fresh Tryz.prog E0 81 sp_r7may:=Alias.fresh jys (fun x=>rfl)
abbrev ju9 (r:Int) (lo:Int) (hi:Int):List CV:=[.int .i32 r,.int .i32 lo,.int .i32 hi]
abbrev jva (r:Int) (lo:Int) (hi:Int):Prop×Res:=(I32 r∧I32 lo∧I32 hi,.ret (.bool (decide (lo≤r)&&decide (r≤hi))))
noncomputable def sp_r7in:Spec:=spOf (α:=Int×Int×Int) (fun⟨r,lo,hi⟩=>ju9 r lo hi) fun⟨r,lo,hi⟩=>jva r lo hi
theorem js8 (r:Int) (lo:Int) (hi:Int):sp_r7in (ju9 r lo hi)=some (jva r lo hi):=jak _ injS (r,lo,hi)
theorem jAF:Alias Tryz.prog E0 82 sp_r7in:=Alias.of fun⟨r,lo,hi⟩ hG=>TF.intro (V:=(VV [] GOk.nil 15 0)) jr6 rfl rfl (by
 dsimp only[ju9,jva]at hG ⊢
 repeat' first|simp only[SA,seval,rdB]|refine tT ?_|refine Cos.intro [] [] rfl ?_|refine And.intro ?_ ?_|exact tC|(refine tI ?_;intro hyp)|intro hyp0|omega)
theorem jAG:Fresh Tryz.prog E0 82 sp_r7in:=Alias.fresh jAF (fun x=>rfl)
abbrev jko (r:Int):List CV:=[.int .i32 r]
abbrev jkp (r:Int):Prop×Res:=(I32 r,.ret (.int .i64 (Utf.width r)))
noncomputable def sp_r7width:Spec:=spOf (α:=Int) (fun r=>jko r) fun r=>jkp r
theorem jbT (r:Int):sp_r7width (jko r)=some (jkp r):=jak _ injS r
theorem js9:Alias Tryz.prog E0 46 sp_r7width:=Alias.of fun r hG=>TF.intro (V:=(VV [(81,conF [.any] sp_r7may),(82,conF [.any,.any,.any] sp_r7in)] (.cons (jaa jhP) (Fresh.soundF jm9) (.cons (jaa jr6) (Fresh.soundF jAG) GOk.nil)) 64 0)) jfK rfl rfl (by
 dsimp only[jko,jkp]at hG ⊢
 repeat' first|simp only[SA,seval,rdB,jbX,js8]|refine tT ?_|refine Cos.intro [] [] rfl ?_|refine And.intro ?_ ?_|exact tC|(refine tI ?_;intro hyp)|intro hyp0|omega
 all_goals
  simp only[Utf.width,Utf.noWidth,Utf.hit,Utf.nones,Utf.wides,List.any_cons,List.any_nil,List.getD_cons_zero,List.getD_cons_succ,Bool.or_false]
  simp only[Utf.may,HB,ne_eq,reduceCtorEq]at *
  repeat' split
  all_goals (first|omega|(simp only[HB,ne_eq,reduceCtorEq]at *;omega)|(simp only[HB,ne_eq,reduceCtorEq]at *;done)|simp_all))
theorem jip:Fresh Tryz.prog E0 46 sp_r7width:=Alias.fresh js9 (fun x=>rfl)
abbrev jpZ (r:Int):List CV:=[.int .i32 r]
abbrev jp0 (r:Int):Prop×Res:=(I32 r,.ret (.vec (.int .u8) (Utf.enc r)))
noncomputable def sp_r7enc:Spec:=spOf (α:=Int) (fun r=>jpZ r) fun r=>jp0 r
theorem jcx (r:Int):sp_r7enc (jpZ r)=some (jp0 r):=jak _ injS r
theorem jyt:Fresh Tryz.prog E0 111 sp_r7enc:=Fresh.of fun r hG=>TF.intro (V:=(VV [(81,conF [.any] sp_r7may)] (.cons (jaa jhP) (Fresh.soundF jm9) GOk.nil) 60 0)) ji6 rfl rfl (by
 dsimp only[jpZ,jp0]at hG ⊢
 repeat' first|simp only[SA,seval,rdB,jbX]|refine tT ?_|refine Cos.row (t:=.int .u8) rfl ?_ rfl (Nat.le_refl _)|refine And.intro ?_ ?_|exact tC|(refine tI ?_;intro hyp)|intro hyp0|omega
 all_goals
  simp only[Utf.enc,Utf.enc1]
  have hm:=Utf.may_iff r
  simp_all
 all_goals
  (repeat' rw[if_neg (by omega)])
  try rw[if_pos (by omega)]
  try (simp only[List.cons.injEq,and_true])
  (repeat' apply And.intro)
  all_goals first|(rw[w_u8 (by omega)];done)|(rw[w_u8 (by omega)];omega)|rfl)
end
section
open Go.RowKit
set_option maxRecDepth 100000
set_option maxHeartbeats 4000000
theorem jB9 (b:List Int) (h:∀a∈b,Utf.Byte a):-100000000≤Utf.num b∧Utf.num b≤100000000:=by
 rcases b with _|⟨a,_|⟨a2,_|⟨a3,_|⟨a4,_|⟨a5,l⟩⟩⟩⟩⟩<;>simp only[Utf.num]<;>simp[Utf.Byte]at h<;>omega
theorem jkq {b:List Int}(h:∀a∈b,Utf.Byte a) (i:Nat):0≤b.getD i 0∧b.getD i 0≤255:=by
 rw[List.getD_eq_getElem?_getD]
 cases e:b[i]? with
 | none=>simp
 | some x =>
  have:=h x (List.mem_of_getElem? e)
  simp only[Utf.Byte]at this
  simp only[Option.getD_some]
  omega
theorem jCv {b:List Int}(h:(b.length:Int)=1):b.getD 0 0=Utf.num b:=by
 match b,h with
 | [a],_=>rfl
theorem jCw {b:List Int}(h:(b.length:Int)=2):(b.getD 0 0-192)*64+b.getD 1 0-128=Utf.num b:=by
 match b,h with
 | [a,c],_=>rfl
theorem jCx {b:List Int}(h:(b.length:Int)=3):(b.getD 0 0-224)*4096+(b.getD 1 0-128)*64+b.getD 2 0-128=Utf.num b:=by
 match b,h with
 | [a,c,d],_=>rfl
theorem jCy {b:List Int}(h:(b.length:Int)=4):(b.getD 0 0-240)*262144+(b.getD 1 0-128)*4096+(b.getD 2 0-128)*64+b.getD 3 0-128=Utf.num b:=by
 match b,h with
 | [a,c,d,e],_=>rfl
theorem jzD {b:List Int}(h1:¬(b.length:Int)=1) (h2:¬(b.length:Int)=2) (h3:¬(b.length:Int)=3) (h4:¬(b.length:Int)=4):Utf.wholeB b=false:=by
 match b,h1,h2,h3,h4 with
 | [],_,_,_,_=>rfl
 | [_],h,_,_,_=>simp at h
 | [_,_],_,h,_,_=>simp at h
 | [_,_,_],_,_,h,_=>simp at h
 | [_,_,_,_],_,_,_,h=>simp at h
 | _::_::_::_::_::l,_,_,_,_=>simp[Utf.wholeB,Utf.num]
abbrev jkr (b:List Int):List CV:=[.vec (.int .u8) b]
abbrev jks (b:List Int):Prop×Res:=(∀a∈b,Utf.Byte a,.ret (.tup [.int .i32 (Utf.wholeN b),.bool (Utf.wholeB b)]))
noncomputable def sp_r7whole:Spec:=spOf (α:=(List Int)) (fun b=>jkr b) fun b=>jks b
theorem jaq (b:List Int):sp_r7whole (jkr b)=some (jks b):=jak _ injS b
theorem jta : Alias Tryz.prog E0 78 sp_r7whole := Alias.of fun b hG => TF.intro (V := (VV [(81, conF [.any] sp_r7may), (111, conF [.any] sp_r7enc)] (.cons (jaa jhP) (Fresh.soundF jm9) (.cons (jaa ji6) (Fresh.soundF jyt) GOk.nil)) 115 0)) jeq rfl rfl (by
  dsimp only [jkr, jks] at hG ⊢
  have hn := jB9 b hG
  have b0 := jkq hG 0
  have b1 := jkq hG 1
  have b2 := jkq hG 2
  have b3 := jkq hG 3
  repeat' first | refine T.cut (a := z19_2) (fun n : Int => ⟨[(0, .vec (.int .u8) b), (4, .int .i64 n)], []⟩) (fun n => n = Utf.num b ∧ 1 ≤ b.length ∧ b.length ≤ 4 ∧ IntKind.i32.wrap n = n) ?_ (fun n ⟨e, h1, h4, hw⟩ => ?_) | simp only [SA, seval, rdB, jbX, jcx] | simp only [hw] | refine tT ?_ | refine Cos.intro [] [] rfl ?_ | exact ⟨_, ⟨jCv hyp, by omega, by omega, js3 (by omega)⟩, (Cos.intro [] [] rfl (by (simp only [SA, seval, rdB, jbX, jcx]); first | done | (repeat' apply And.intro) <;> first | rfl | omega | simp))⟩ | exact ⟨_, ⟨jCw hyp, by omega, by omega, js3 (by omega)⟩, (Cos.intro [] [] rfl (by (simp only [SA, seval, rdB, jbX, jcx]); first | done | (repeat' apply And.intro) <;> first | rfl | omega | simp))⟩ | exact ⟨_, ⟨jCx hyp, by omega, by omega, js3 (by omega)⟩, (Cos.intro [] [] rfl (by (simp only [SA, seval, rdB, jbX, jcx]); first | done | (repeat' apply And.intro) <;> first | rfl | omega | simp))⟩ | exact ⟨_, ⟨jCy hyp, by omega, by omega, js3 (by omega)⟩, (Cos.intro [] [] rfl (by (simp only [SA, seval, rdB, jbX, jcx]); first | done | (repeat' apply And.intro) <;> first | rfl | omega | simp))⟩ | refine And.intro ?_ ?_ | exact tC | (refine tI ?_; intro hyp) | intro hyp0 | omega
  all_goals first
    | (rw [jzD ‹_› ‹_› ‹_› ‹_›]; done)
    | (have hf : Utf.wholeB b = false := jzD ‹_› ‹_› ‹_› ‹_›
       simp only [Utf.wholeN, hf, Bool.false_eq_true, if_false])
    | (have hf : Utf.wholeB b = false := by
         simp only [Utf.wholeB, ← e, Bool.and_eq_false_iff, decide_eq_false_iff_not]
         omega
       simp only [Utf.wholeN, hf, Bool.false_eq_true, if_false])
    | (have hf : Utf.wholeB b = false := by
         simp only [Utf.wholeB, ← e, Bool.and_eq_false_iff, beq_eq_false_iff_ne]
         rcases hyp with q | q
         · exact .inl (.inr q)
         · exact .inr (fun q2 => q (by rw [q2]))
       simp only [Utf.wholeN, hf, Bool.false_eq_true, if_false])
    | skip
  refine T.loop (fun k : Nat => ⟨[(0, .vec (.int .u8) b), (4, .int .i64 n), (5, .vec (.int .u8) (Utf.enc n)), (99, .int .i64 (Utf.enc n).length), (100, .int .i64 k)], []⟩) (fun k => k ≤ b.length ∧ ∀ j, j < k → (Utf.enc n)[j]? = b[j]?) (fun k => b.length - k) 0 ⟨by omega, fun j hj => by omega⟩ (Cos.intro [] [] rfl (by (simp only [SA, seval, rdB, jbX, jcx]); first | done | (repeat' apply And.intro) <;> first | rfl | omega | simp)) (fun k ⟨hk, hall⟩ => ?_)
  have whole_no : Utf.enc n ≠ b → Utf.wholeB b = false := fun q => by
    simp only [Utf.wholeB, ← e, Bool.and_eq_false_iff, beq_eq_false_iff_ne]
    exact .inr q
  have hlen : (Utf.enc n).length = b.length := by omega
  repeat' first | simp only [SA, seval, rdB, jbX, jcx] | simp only [hw] | refine tT ?_ | refine Cos.intro [] [] rfl ?_ | exact ⟨k + 1, ⟨by omega, jgh (by omega) (by omega) hyp hall⟩, by omega, (Cos.intro [] [] rfl (by (simp only [SA, seval, rdB, jbX, jcx]); first | done | (repeat' apply And.intro) <;> first | rfl | omega | simp))⟩ | refine And.intro ?_ ?_ | exact tC | (refine tI ?_; intro hyp) | intro hyp0 | omega
  all_goals first
    | (rw [whole_no (fun q => by rw [q] at hyp; exact hyp rfl)]; done)
    | (simp only [Utf.wholeN, whole_no (fun q => by rw [q] at hyp; exact hyp rfl), Bool.false_eq_true, if_false]; done)
    | (have hq : Utf.enc n = b := jhK hlen (by omega) hall
       have ht : Utf.wholeB b = true := by
         simp only [Utf.wholeB, ← e, Bool.and_eq_true, decide_eq_true_eq, beq_iff_eq]
         exact ⟨⟨by omega, by simp_all⟩, hq⟩
       simp only [Utf.wholeN, ht, if_true, e]))
theorem jgz:Fresh Tryz.prog E0 78 sp_r7whole:=Alias.fresh jta (fun x=>rfl)
end
end Go.Proofs.YtcfkfgkndncanaaGreatDoor

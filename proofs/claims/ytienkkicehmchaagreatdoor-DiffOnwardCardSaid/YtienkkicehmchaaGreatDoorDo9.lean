/- Texts of this claim, merged by a program of this claim: FUtf, FUtf2, FUtf3, FUtf4, FUtf5. -/
import Derived.Test.YtienkkicehmchaaGreatDoorDo5
import Derived.Test.YtienkkicehmchaaGreatDoorDo6
import Derived.Test.YtienkkicehmchaaGreatDoorDo7
import Derived.Test.YtienkkicehmchaaGreatDoorDo8
namespace Go.Proofs.YtienkkicehmchaaGreatDoor
open Cos renaming intro→qaa
open List renaming replicate→qab,take_of_length_le→qae,length_drop→qag,set_append_right→qah,mem_of_mem_drop→qai,replicate_succ→qaj,length_append→qak,length_cons→qal,any_eq_true→qam,take→qan,mem_append→qao,length→qap,drop_drop→qaq,mem_cons→qar,drop→qas
open And renaming intro→qac
open Bool renaming false_eq_true→qad,and_eq_false_iff→qaf
noncomputable section
set_option linter.unusedVariables false
set_option linter.unusedSimpArgs false
section
open Go.RowKit
set_option maxRecDepth 100000
set_option maxHeartbeats 4000000
namespace Utf
def nones:List (List Int):=[[768,879],[8203,8207],[65024,65039]]
def wides:List (List Int):=[[4352,4447],[11904,12350],[12353,42191],[44032,55203],[63744,64255],[65072,65135],[65280,65376],[65504,65510],[127744,128591],[131072,262141]]
def hit (l:List (List Int)) (r:Int):Bool:=l.any fun p=>decide (p.getD 0 0≤r)&&decide (r≤p.getD 1 0)
def noWidth (r:Int):Bool:=decide (r<32) || (decide (127≤r)&&decide (r≤159)) || (decide (55296≤r)&&decide (r≤57343)) || decide (1114111<r)
def width (r:Int):Int:=if noWidth r then 0 else if hit nones r then 0 else if hit wides r then 2 else 1
theorem hit_snoc (l:List (List Int)) (k:Nat) (h:k<l.length) (r lo hi:Int) (e:l[k]?=some [lo,hi]):hit (l.take (k+1)) r=(hit (l.take k) r || (decide (lo≤r)&&decide (r≤hi))):=by
 have:l.take (k+1)=l.take k++[[lo,hi]]:=by
  rw[List.take_succ_eq_append_getElem h]
  rw[List.getElem?_eq_getElem h]at e
  rw[Option.some.inj e]
 unfold hit
 rw[this,List.any_append]
 simp
end Utf
abbrev I32 (r:Int):Prop:=-2147483648≤r∧r≤2147483647
abbrev q_r7may (r:Int):QA:=([.int .i32 r],I32 r,.ret (.bool (Utf.may r)))
def sp_r7may:=spQ (u1 q_r7may)
theorem jgy:W1 (hA sp_r7may) q_r7may:=w1 (aA rfl)
theorem jwC:Al 90 sp_r7may:=ofA (u1 q_r7may) fun r hG=>tfi .nil 0 jhf (by
 dsimp only[u1,q_r7may]at hG ⊢
 repeat' first|refine tU ?_|refine qaa [] [] rfl ?_|refine qac ?_ ?_|(refine tI ?_;intro hyp)|intro hyp0|exact tZ|omega
 rfl)
theorem jmr:Fre 90 sp_r7may:=ofF (u1 q_r7may) jwC fun _=>rfl
abbrev q_r7in (r lo hi:Int):QA:=([.int .i32 r,.int .i32 lo,.int .i32 hi],I32 r∧I32 lo∧I32 hi,.ret (.bool (decide (lo≤r)&&decide (r≤hi))))
def sp_r7in:=spQ (u3 q_r7in)
theorem jrx:W3 (hA sp_r7in) q_r7in:=w3 (aA rfl)
theorem jyY:Al 91 sp_r7in:=ofA (u3 q_r7in) fun⟨r,lo,hi⟩ hG=>tfi .nil 0 jqe (by
 dsimp only[u3,q_r7in]at hG ⊢
 repeat' first|refine tU ?_|refine qaa [] [] rfl ?_|refine qac ?_ ?_|(refine tI ?_;intro hyp)|intro hyp0|exact tZ|omega)
theorem jyZ:Fre 91 sp_r7in:=ofF (u3 q_r7in) jyY fun _=>rfl
abbrev q_r7width (r:Int):QA:=([.int .i32 r],I32 r,.ret (.int .i64 (Utf.width r)))
def sp_r7width:=spQ (u1 q_r7width)
theorem jhg:W1 (hA sp_r7width) q_r7width:=w1 (aA rfl)
theorem jry:Al 40 sp_r7width:=ofA (u1 q_r7width) fun r hG=>tfi (.f [.any] jhf jmr (.f [.any,.any,.any] jqe jyZ .nil)) 0 jgx (by
 dsimp only[u1,q_r7width]at hG ⊢
 have zc:=Hk.mk (qac @jgy @jrx)
 repeat' first|refine tU ?_|refine qaa [] [] rfl ?_|refine qac ?_ ?_|(refine tI ?_;intro hyp)|intro hyp0|exact tZ|omega
 all_goals
  simp only[Utf.width,Utf.noWidth,Utf.hit,Utf.nones,Utf.wides,List.any_cons,List.any_nil,List.getD_cons_zero,List.getD_cons_succ,Bool.or_false]
  simp only[Utf.may,HB,ne_eq,reduceCtorEq]at *
  repeat' split
  all_goals (first|omega|(simp only[HB,ne_eq,reduceCtorEq]at *;omega)|(simp only[HB,ne_eq,reduceCtorEq]at *;done)|simp_all))
theorem jk8:Fre 40 sp_r7width:=ofF (u1 q_r7width) jry fun _=>rfl
abbrev q_r7enc (r:Int):QA:=([.int .i32 r],I32 r,.ret (.vec (.int .u8) (Utf.enc r)))
def sp_r7enc:=spQ (u1 q_r7enc)
theorem joU:W1 (hA sp_r7enc) q_r7enc:=w1 (aA rfl)
theorem jwD:Fre 123 sp_r7enc:=ofT (u1 q_r7enc) fun r hG=>tfi (.f [.any] jhf jmr .nil) 0 jis (by
 dsimp only[u1,q_r7enc]at hG ⊢
 have zc:=Hk.mk (@jgy)
 repeat' first|refine tU ?_|refine Cos.row (t:=.int .u8) rfl ?_ rfl (Nat.le_refl _)|refine qac ?_ ?_|(refine tI ?_;intro hyp)|intro hyp0|exact tZ|omega
 all_goals
  simp only[Utf.enc,Utf.enc1]
  have hm:=Utf.may_iff r
  simp_all
 all_goals
  (repeat' rw[if_neg (by omega)])
  try rw[if_pos (by omega)]
  try (simp only[List.cons.injEq,and_true])
  (repeat' apply qac)
  all_goals first|(rw[w_u8 (by omega)];done)|(rw[w_u8 (by omega)];omega)|rfl)
end
section
open Go.RowKit
set_option maxRecDepth 100000
set_option maxHeartbeats 4000000
theorem jAO (b:List Int) (h:∀a∈b,Utf.Byte a):-100000000≤Utf.num b∧Utf.num b≤100000000:=by
 rcases b with _|⟨a,_|⟨a2,_|⟨a3,_|⟨a4,_|⟨a5,l⟩⟩⟩⟩⟩<;>simp only[Utf.num]<;>simp[Utf.Byte]at h<;>omega
theorem jjQ {b:List Int}(h:∀a∈b,Utf.Byte a) (i:Nat):0≤b.getD i 0∧b.getD i 0≤255:=by
 rw[List.getD_eq_getElem?_getD]
 cases e:b[i]? with
 | none=>simp
 | some x =>
  have:=h x (List.mem_of_getElem? e)
  simp only[Utf.Byte]at this
  simp only[Option.getD_some]
  omega
theorem jBw {b:List Int}(h:(b.length:Int)=1):b.getD 0 0=Utf.num b:=by
 match b,h with
 | [a],_=>rfl
theorem jBx {b:List Int}(h:(b.length:Int)=2):(b.getD 0 0-192)*64+b.getD 1 0-128=Utf.num b:=by
 match b,h with
 | [a,c],_=>rfl
theorem jBy {b:List Int}(h:(b.length:Int)=3):(b.getD 0 0-224)*4096+(b.getD 1 0-128)*64+b.getD 2 0-128=Utf.num b:=by
 match b,h with
 | [a,c,d],_=>rfl
theorem jBz {b:List Int}(h:(b.length:Int)=4):(b.getD 0 0-240)*262144+(b.getD 1 0-128)*4096+(b.getD 2 0-128)*64+b.getD 3 0-128=Utf.num b:=by
 match b,h with
 | [a,c,d,e],_=>rfl
theorem jx6 {b:List Int}(h1:¬(b.length:Int)=1) (h2:¬(b.length:Int)=2) (h3:¬(b.length:Int)=3) (h4:¬(b.length:Int)=4):Utf.wholeB b=false:=by
 match b,h1,h2,h3,h4 with
 | [],_,_,_,_=>rfl
 | [_],h,_,_,_=>simp at h
 | [_,_],_,h,_,_=>simp at h
 | [_,_,_],_,_,h,_=>simp at h
 | [_,_,_,_],_,_,_,h=>simp at h
 | _::_::_::_::_::l,_,_,_,_=>simp[Utf.wholeB,Utf.num]
abbrev q_r7whole (b:List Int):QA:=([.vec (.int .u8) b],∀a∈b,Utf.Byte a,.ret (.tup [.int .i32 (Utf.wholeN b),.bool (Utf.wholeB b)]))
def sp_r7whole:=spQ (u1 q_r7whole)
theorem jc1:W1 (hA sp_r7whole) q_r7whole:=w1 (aA rfl)
theorem jrz : Al 87 sp_r7whole := ofA (u1 q_r7whole) fun b hG => tfi (.f [.any] jhf jmr (.f [.any] jis jwD .nil)) 0 jdg (by
  dsimp only [u1, q_r7whole] at hG ⊢
  have zc := Hk.mk (qac @jgy @joU)
  have hn := jAO b hG
  have b0 := jjQ hG 0
  have b1 := jjQ hG 1
  have b2 := jjQ hG 2
  have b3 := jjQ hG 3
  repeat' first | refine T.cut (a := z4_2) (fun n : Int => ⟨[(0, .vec (.int .u8) b), (4, .int .i64 n)], []⟩) (fun n => n = Utf.num b ∧ 1 ≤ b.length ∧ b.length ≤ 4 ∧ IntKind.i32.wrap n = n) ?_ (fun n ⟨e, h1, h4, hw⟩ => ?_) | refine tU ?_ | refine qaa [] [] rfl ?_ | exact ⟨_, ⟨jBw hyp, by omega, by omega, jnt (by omega)⟩, (qaa [] [] rfl (by exact tG))⟩ | exact ⟨_, ⟨jBx hyp, by omega, by omega, jnt (by omega)⟩, (qaa [] [] rfl (by exact tG))⟩ | exact ⟨_, ⟨jBy hyp, by omega, by omega, jnt (by omega)⟩, (qaa [] [] rfl (by exact tG))⟩ | exact ⟨_, ⟨jBz hyp, by omega, by omega, jnt (by omega)⟩, (qaa [] [] rfl (by exact tG))⟩ | refine qac ?_ ?_ | (refine tI ?_; intro hyp) | intro hyp0 | exact tZ | omega
  all_goals first
    | (rw [jx6 ‹_› ‹_› ‹_› ‹_›]; done)
    | (have hf : Utf.wholeB b = false := jx6 ‹_› ‹_› ‹_› ‹_›
       simp only [Utf.wholeN, hf, qad, if_false])
    | (have hf : Utf.wholeB b = false := by
         simp only [Utf.wholeB, ← e, qaf, decide_eq_false_iff_not]
         omega
       simp only [Utf.wholeN, hf, qad, if_false])
    | (have hf : Utf.wholeB b = false := by
         simp only [Utf.wholeB, ← e, qaf, beq_eq_false_iff_ne]
         rcases hyp with q | q
         · exact .inl (.inr q)
         · exact .inr (fun q2 => q (by rw [q2]))
       simp only [Utf.wholeN, hf, qad, if_false])
    | skip
  refine T.loop (fun k : Nat => ⟨[(0, .vec (.int .u8) b), (4, .int .i64 n), (5, .vec (.int .u8) (Utf.enc n)), (99, .int .i64 (Utf.enc n).length), (100, .int .i64 k)], []⟩) (fun k => k ≤ b.length ∧ ∀ j, j < k → (Utf.enc n)[j]? = b[j]?) (fun k => b.length - k) 0 ⟨by omega, fun j hj => by omega⟩ (qaa [] [] rfl (by exact tG)) (fun k ⟨hk, hall⟩ => ?_)
  have whole_no : Utf.enc n ≠ b → Utf.wholeB b = false := fun q => by
    simp only [Utf.wholeB, ← e, qaf, beq_eq_false_iff_ne]
    exact .inr q
  have hlen : (Utf.enc n).length = b.length := by omega
  repeat' first | refine tU ?_ | refine qaa [] [] rfl ?_ | exact ⟨k + 1, ⟨by omega, jee (by omega) (by omega) hyp hall⟩, by omega, (qaa [] [] rfl (by exact tG))⟩ | refine qac ?_ ?_ | (refine tI ?_; intro hyp) | intro hyp0 | exact tZ | omega
  all_goals first
    | (rw [whole_no (fun q => by rw [q] at hyp; exact hyp rfl)]; done)
    | (simp only [Utf.wholeN, whole_no (fun q => by rw [q] at hyp; exact hyp rfl), qad, if_false]; done)
    | (have hq : Utf.enc n = b := jfP hlen (by omega) hall
       have ht : Utf.wholeB b = true := by
         simp only [Utf.wholeB, ← e, Bool.and_eq_true, decide_eq_true_eq, beq_iff_eq]
         exact ⟨⟨by omega, by simp_all⟩, hq⟩
       simp only [Utf.wholeN, ht, if_true, e]))
theorem jfQ:Fre 87 sp_r7whole:=ofF (u1 q_r7whole) jrz fun _=>rfl
end
section
open Go.RowKit
set_option maxRecDepth 100000
set_option maxHeartbeats 4000000
def NoW (b:List Int) (n last:Nat):Prop:=(b.length=1→∀s:Int,128≤s→s≤191→Utf.wholeB (b.getD 0 0::s::qab (n-2) (Utf.pad last))=false)∧(b.length≠1→Utf.wholeB (Utf.tryOf b n last)=false)
theorem jtp (k m:Nat) (a v:Int):(qab k a++qab (m+1) (0:Int)).set k v=qab k a++v::qab m 0:=by
 rw[qah _ _ (by simp)]
 simp[qaj]
theorem jnx (k:Nat) (a:Int) (l:List Int):qab k a++a::l=qab (k+1) a++l:=by
 rw[List.replicate_succ']
 simp
theorem jqg (n k:Nat) (h:k<n) (a v:Int):(qab k a++qab (n-k) (0:Int)).set k v=qab k a++v::qab (n-(k+1)) 0:=by
 have:=jtp k (n-(k+1)) a v
 rwa [show n-(k+1)+1=n-k by omega]at this
theorem jtq (k:Nat) (a v w:Int) (l:List Int):(qab k a++v::l).set k w=qab k a++w::l:=by
 rw[qah _ _ (by simp)]
 simp
theorem len1 {b:List Int}(h:(b.length:Int)=1):∃a,b=[a]:=by
 match b,h with
 | [a],_=>exact⟨a,rfl⟩
theorem jrA {b:List Int}(hb:∀a∈b,Utf.Byte a) (h0:¬(b.length:Int)=0) (h3:¬3<(b.length:Int)) (h:∀n last,b.length+1≤n→n<5→last<2→NoW b n last):Utf.beginsB b=false:=by
 by_cases h1:b.length=1
 ·obtain⟨a,rfl⟩:=len1 (by omega:(b.length:Int)=1)
  exact Utf.begins_not1 a (hb a (by simp)) fun n last s q1 q2 q3 q4 q5=>(h n last (by simpa using q1) (by omega) q3).1 rfl s q4 q5
 ·exact Utf.begins_not b hb (by omega) (by omega) fun n last q1 q2 q3=>(h n last q1 (by omega) q3).2 h1
theorem jk9 {b:List Int}(hb:∀a∈b,Utf.Byte a) (h0:¬(b.length:Int)=0){ext:List Int}(he:∀a∈ext,Utf.Byte a) (h2:ext≠[]) (h:Utf.wholeB (b++ext)=true):Utf.beginsB b=true :=
 Utf.begins_of b ext hb he (fun e=>by subst e;simp at h0) h2 h
theorem jms (m last:Nat):∀a∈qab m (Utf.pad last),Utf.Byte a:=fun a ha=>by
 rw[List.eq_of_mem_replicate ha]
 exact Utf.pad_byte last
abbrev q_r7begins (b:List Int):QA:=([.vec (.int .u8) b],∀a∈b,Utf.Byte a,.ret (.bool (Utf.beginsB b)))
def sp_r7begins:=spQ (u1 q_r7begins)
theorem jge:W1 (hA sp_r7begins) q_r7begins:=w1 (aA rfl)
theorem joV:Al 124 sp_r7begins:=ofA (u1 q_r7begins) fun b hG=>tfi (.f [.sl (.int .u8)] jdg jfQ .nil) 0 jfo (by
 dsimp only[u1,q_r7begins]at hG ⊢
 have zc:=Hk.mk (@jc1)
 repeat' first|refine tU ?_|refine qaa [] [] rfl ?_|refine qac ?_ ?_|(refine tI ?_;intro hyp)|intro hyp0|exact tZ|omega
 ·rcases hyp with q|q
  ·match b,q with
   | [],_=>rfl
  ·match b,q with
   | _::_::_::_::_,_=>rfl
   | [],q=>simp at q
   | [_],q=>simp at q
   | [_,_],q=>simp at q
   | [_,_,_],q=>simp at q
 obtain⟨h0,h3⟩:=hyp
 refine T.loop (fun n:Nat=>⟨[(0,.vec (.int .u8) b),(3,.int .i64 n)],[]⟩) (fun n=>b.length+1≤n∧n≤5∧∀n' last,b.length+1≤n'→n'<n→last<2→NoW b n' last) (fun n=>5-n) (b.length+1) ⟨by omega,by omega,fun n' last h1 h2=>by omega⟩ (qaa [] [] rfl (by exact tG)) (fun n ⟨hn1,hn2,hall⟩=>?_)
 repeat' first|refine tU ?_|refine qaa [] [] rfl ?_|refine qac ?_ ?_|(refine tI ?_;intro hyp)|intro hyp0|exact tZ|omega
 rotate_left
 ·exact (jrA hG h0 h3 (fun n' last q1 q2 q3=>hall n' last q1 (by omega) q3)).symm
 refine T.loop (fun l:Nat=>⟨[(0,.vec (.int .u8) b),(3,.int .i64 n),(4,.int .i64 l)],[]⟩) (fun l=>l≤2∧∀last,last<l→NoW b n last) (fun l=>2-l) 0 ⟨by omega,fun last h1=>by omega⟩ (qaa [] [] rfl (by exact tG)) (fun l ⟨hl,hnow⟩=>?_)
 have hbn:b.length<n:=by omega
 have hw:qan (min b.length n) b++qas (min b.length n) (qab n (Utf.pad l))=Utf.tryOf b n l:=by
  rw[Nat.min_eq_left (by omega),qae (Nat.le_refl _),List.drop_replicate]
  rfl
 have hlen:(Utf.tryOf b n l).length=n:=by
  simp only[Utf.tryOf,qak,List.length_replicate]
  omega
 have hw2:qan n (Utf.tryOf b n l)=Utf.tryOf b n l:=qae (by omega)
 have hby:∀a∈Utf.tryOf b n l,0≤a∧a<256:=fun a ha=>by
  simp only[Utf.tryOf,qao]at ha
  rcases ha with q|q
  ·exact hG a q
  ·exact jms _ _ a q
 repeat' first|refine T.cut (a:=z5_23) (fun _:Unit=>⟨[(0,.vec (.int .u8) b),(3,.int .i64 n),(4,.int .i64 l),(5,.slice 0 0 1 n n)],[.seq (.int .u8) (qab n (Utf.pad l))]⟩) (fun _=>True) ?_ (fun _ _=>?_)|refine tU ?_|refine qaa [] [] rfl ?_|exact⟨n+1,⟨by omega,by omega,fun n' last q1 q2 q3=>if e:n'=n then by subst e;exact hnow last (by omega) else hall n' last q1 (by omega) q3⟩,by omega,(qaa [] [] rfl (by exact tG))⟩|refine qac ?_ ?_|(refine tI ?_;intro hyp)|intro hyp0|exact tZ|omega
 ·refine T.loop (fun k:Nat=>⟨[(0,.vec (.int .u8) b),(3,.int .i64 n),(4,.int .i64 l),(5,.slice 0 0 1 n n),(34,.int .i64 n),(35,.int .i64 k)],[.seq (.int .u8) (qab k (Utf.pad l)++qab (n-k) (0:Int))]⟩) (fun k=>k≤n) (fun k=>n-k) 0 (by omega) (qaa [0] [] rfl (by simp only[PB,SAM,seval,rdB,Hk.out zc];simp)) (fun k hk=>?_)
  repeat' first|refine tU ?_|refine qac ?_ ?_|(refine tI ?_;intro hyp)|intro hyp0|exact tZ|omega
  ·have hp:Utf.pad l=191:=if_pos (by omega)
   refine⟨k+1,by omega,by omega,qaa [0] [] rfl ?_⟩
   rw[jqg _ _ (by omega),jtq,hp,jnx]
   simp only[PB,SAM,seval,rdB,Hk.out zc]
   simp
  ·have hp:Utf.pad l=128:=if_neg (by omega)
   refine⟨k+1,by omega,by omega,qaa [0] [] rfl ?_⟩
   rw[jqg _ _ (by omega),hp,jnx]
   simp only[PB,SAM,seval,rdB,Hk.out zc]
   simp
  ·obtain rfl:k=n:=by omega
   refine⟨(),qaa [0] [] rfl ?_⟩
   simp only[PB,SAM,seval,rdB,Hk.out zc,Nat.sub_self,List.replicate_zero]
   simp
 ·obtain⟨b0,rfl⟩:=len1 hyp
  have hw3:∀s:Int,qan n (b0::s::qab (n-2) (Utf.pad l))=b0::s::qab (n-2) (Utf.pad l):=fun s=>qae (by simp;simp at hbn;omega)
  have hq:Utf.tryOf [b0] n l=b0::Utf.pad l::qab (n-2) (Utf.pad l):=by
   simp only[Utf.tryOf,qal,List.length_nil,List.singleton_append]
   rw[show n-(0+1)=n-2+1 by omega,qaj]
  have hb0:=hG b0 (by simp)
  refine T.loop (fun x:Int×Int=>⟨[(0,.vec (.int .u8) [b0]),(3,.int .i64 n),(4,.int .i64 l),(5,.slice 0 0 1 n n),(7,.int .i64 x.1)],[.seq (.int .u8) (b0::x.2::qab (n-2) (Utf.pad l))]⟩) (fun x=>128≤x.1∧x.1≤192∧∀s,128≤s→s<x.1→Utf.wholeB (b0::s::qab (n-2) (Utf.pad l))=false) (fun x=>(192-x.1).toNat) (128,Utf.pad l) ⟨by omega,by omega,fun s h1 h2=>by omega⟩ (qaa [0] [] rfl (by rw[hq];simp only[PB,SAM,seval,rdB,Hk.out zc];exact Nat.le_refl _)) (fun⟨s,s'⟩ ⟨h1,h2,hno⟩=>?_)
  dsimp only at h1 h2 hno ⊢
  have hw:IntKind.u8.wrap s=s:=w_u8 (by omega)
  have hsb:∀a∈s::qab (n-2) (Utf.pad l),s≤191→Utf.Byte a:=fun a ha hs=>by
   simp only[qar]at ha
   rcases ha with rfl|q
   ·exact⟨by omega,by omega⟩
   ·exact jms _ _ a q
  have hall2:∀a∈b0::s::qab (n-2) (Utf.pad l),s≤191→0≤a∧a<256:=fun a ha hs=>by
   rw[qar]at ha
   rcases ha with rfl|q
   ·exact hb0
   ·exact hsb a q hs
  repeat' first|refine tU ?_|refine qaa [] [] rfl ?_|refine qac ?_ ?_|(refine tI ?_;intro hyp)|intro hyp0|exact tZ|omega
  ·exact (hall2 _ (by simpa using hyp) ‹_›).1
  ·exact (hall2 _ (by simpa using hyp) ‹_›).2
  ·exact (jk9 hG h0 (ext:=s::qab (n-2) (Utf.pad l)) (fun a ha=>hsb a ha ‹_›) (by simp) hyp).symm
  ·refine⟨(s+1,s),⟨by omega,by omega,fun t q1 q2=>?_⟩,by simp only;omega,qaa [0] [] rfl (by simp only[PB,SAM,seval,rdB,Hk.out zc];exact Nat.le_refl _)⟩
   by_cases e:t=s
   ·subst e
    exact hyp
   ·exact hno t q1 (by simp only at q2;omega)
  ·refine⟨l+1,⟨by omega,fun last q=>?_⟩,by omega,qaa [] [] rfl (by simp only[PB,SAM,seval,rdB,Hk.out zc];simp)⟩
   by_cases e:last=l
   ·subst e
    exact⟨fun _ t q1 q2=>hno t q1 (by omega),fun q=>absurd rfl q⟩
   ·exact hnow last (by omega)
 ·exact hby _ hyp |>.1
 ·exact hby _ hyp |>.2
 ·exact (jk9 hG h0 (ext:=qab (n-b.length) (Utf.pad l)) (jms _ _) (fun e=>by have:=congrArg qap e;simp at this;omega) hyp).symm
 ·have hne:¬b.length=1:=by omega
  refine⟨l+1,⟨by omega,fun last q=>?_⟩,by omega,qaa [] [] rfl (by simp only[PB,SAM,seval,rdB,Hk.out zc];simp)⟩
  by_cases e:last=l
  ·subst e
   exact⟨fun q=>absurd q hne,fun _=>hyp⟩
  ·exact hnow last (by omega))
theorem jjR:Fre 124 sp_r7begins:=ofF (u1 q_r7begins) joV fun _=>rfl
end
section
open Go.RowKit
set_option maxRecDepth 100000
set_option maxHeartbeats 4000000
theorem jtr (l:List Int):∀(m k:Nat),l.length≤k→k≤m→Utf.wk l m=Utf.wk l k
 | 0,k,h1,h2=>by
  obtain rfl:k=0:=by omega
  rfl
 | m+1,k,h1,h2=>by
  by_cases e:k=m+1
  ·rw[e]
  ·rw[←jtr l m k h1 (by omega),Utf.wk,if_neg (by omega)]
theorem jla:∀(l:List Int) (o:List Int) (b:Int),Utf.rtold o (l++[b])=Utf.rtold o l++(Utf.rfeed (Utf.rafter o l) b).1
 | [],o,b=>by simp[Utf.rtold,Utf.rafter]
 | a::l,o,b=>by simp[Utf.rtold,Utf.rafter,jla l]
theorem jjS:∀(l:List Int) (o:List Int) (b:Int),Utf.rafter o (l++[b])=(Utf.rfeed (Utf.rafter o l) b).2
 | [],o,b=>by simp[Utf.rafter]
 | a::l,o,b=>by simp[Utf.rafter,jjS l]
theorem jny (o:List Int) (b:Int):(Utf.rfeed o b).1.length≤2:=by
 unfold Utf.rfeed Utf.rfeed0
 repeat' split
 all_goals simp
theorem jnz:∀(l:List Int) (o:List Int),(Utf.rtold o l).length≤2*l.length
 | [],o=>by simp[Utf.rtold]
 | a::l,o=>by
  have:=jny o a
  have:=jnz l (Utf.rfeed o a).2
  simp only[Utf.rtold,qak,qal]
  omega
theorem jts (o:List Int):(Utf.rendT o).length≤1:=by
 unfold Utf.rendT
 split<;>simp
theorem joW {l:List Int}(hl:∀a∈l,Utf.Byte a):(Utf.rafter [] l).length≤3∧∀a∈Utf.rafter [] l,Utf.Byte a:=Utf.rel_open _ _ (Utf.told_rel l hl Utf.start [] Utf.rel_start).2
abbrev jrB:List AK:=[.agg [.sl (.int .u8)],.any]
abbrev q_r7feed0 (o:List Int) (b:Int):QA:=([.agg [.vec (.int .u8) o],.int .u8 b],o=[]∧0≤b∧b<256,.ret (.tup [.vec (.int .i32) (Utf.rfeed0 b).1,.agg [.vec (.int .u8) (Utf.rfeed0 b).2]]))
def sp_r7feed0:=spQ (u2 q_r7feed0)
theorem jmt:W2 (hA sp_r7feed0) q_r7feed0:=w2 (aA rfl)
theorem jrC:Al 88 sp_r7feed0:=ofA (u2 q_r7feed0) fun⟨o,b⟩ hG=>tfi (.f [.sl (.int .u8)] jdg jfQ (.f [.sl (.int .u8)] jfo jjR .nil)) 0 jbt (by
 dsimp only[u2,q_r7feed0]at hG ⊢
 have zc:=Hk.mk (qac @jc1 @jge)
 obtain⟨rfl,hb⟩:=hG
 repeat' first|refine tU ?_|refine qaa [] [0,1,2,3,4,5,6,7,8,9] rfl ?_|refine qac ?_ ?_|(refine tI ?_;intro hyp)|intro hyp0|exact tZ|omega
 all_goals simp_all [Utf.rfeed0])
abbrev jwE:List AK:=[.agg [.sl (.int .u8)]]
abbrev q_r7end (o:List Int):QA:=([.agg [.vec (.int .u8) o]],True,.ret (.vec (.int .i32) (Utf.rendT o)))
def sp_r7end:=spQ (u1 q_r7end)
theorem joX:W1 (hA sp_r7end) q_r7end:=w1 (aA rfl)
theorem jwF:Al 89 sp_r7end:=ofA (u1 q_r7end) fun o hG=>tfi .nil 0 jed (by
 dsimp only[u1,q_r7end]at hG ⊢
 repeat' first|refine tU ?_|refine qaa [] [0,1,2,3,4,5,6,7,8,9] rfl ?_|refine qac ?_ ?_|(refine tI ?_;intro hyp)|intro hyp0|exact tZ|omega
 all_goals simp_all [Utf.rendT])
abbrev jtt:List AK:=[.agg [.sl (.int .u8)],.any]
abbrev q_r7feed (o:List Int) (b:Int):QA:=([.agg [.vec (.int .u8) o],.int .u8 b],(∀a∈o,Utf.Byte a)∧(0≤b∧b<256)∧o.length≤1000,.ret (.tup [.vec (.int .i32) (Utf.rfeed o b).1,.agg [.vec (.int .u8) (Utf.rfeed o b).2]]))
def sp_r7feed:=spQ (u2 q_r7feed)
theorem jnA:W2 (hA sp_r7feed) q_r7feed:=w2 (aA rfl)
theorem jtu : Al 88 sp_r7feed := ofA (u2 q_r7feed) fun ⟨o, b⟩ hG => tfi (.f [.sl (.int .u8)] jdg jfQ (.f [.sl (.int .u8)] jfo jjR (.a jrB jbt jrC .nil))) 0 jbt (by
  dsimp only [u2, q_r7feed] at hG ⊢
  have zc := Hk.mk (qac @jc1 (qac @jge @jmt))
  obtain ⟨ho, hb, hl⟩ := hG
  have hob : ∀ a ∈ o ++ [b], 0 ≤ a ∧ a < 256 := fun a ha => by
    rw [qao, List.mem_singleton] at ha
    rcases ha with q | rfl
    · exact ho a q
    · exact hb
  have h0 : (Utf.rfeed0 b).1.length ≤ 1 := by
    unfold Utf.rfeed0
    repeat' split
    all_goals simp
  repeat' first | refine tU ?_ | refine qaa [] [0, 1, 2, 3, 4, 5, 6, 7, 8, 9] rfl ?_ | refine qac ?_ ?_ | (refine tI ?_; intro hyp) | intro hyp0 | exact tZ | omega
  all_goals first
    | exact (hob _ hyp).1
    | exact (hob _ hyp).2
    | (simp_all [Utf.rfeed]; done)
    | (have : ¬ o.length = 0 := by omega
       simp_all [Utf.rfeed]))
abbrev q_r7valid (b:List Int):QA:=([.vec (.int .u8) b],(∀a∈b,Utf.Byte a)∧b.length≤4611686018427387904,.ret (.bool (Utf.vB b)))
def sp_r7valid:=spQ (u1 q_r7valid)
theorem jmu:W1 (hA sp_r7valid) q_r7valid:=w1 (aA rfl)
theorem jrD:Al 38 sp_r7valid:=ofA (u1 q_r7valid) fun b hG=>tfi (.f [.sl (.int .u8)] jdg jfQ .nil) 0 jjL (by
 dsimp only[u1,q_r7valid]at hG ⊢
 have zc:=Hk.mk (@jc1)
 obtain⟨hb,hl⟩:=hG
 repeat' first|refine tU ?_|refine qaa [] [] rfl ?_|refine qac ?_ ?_|(refine tI ?_;intro hyp)|intro hyp0|exact tZ|omega
 refine T.loop (fun at_:Nat=>⟨[(0,.vec (.int .u8) b),(3,.int .i64 at_)],[]⟩) (fun at_=>at_≤b.length∧Utf.vB b=Utf.vB (b.drop at_)) (fun at_=>b.length-at_) 0 ⟨by omega,rfl⟩ (qaa [] [] rfl (by exact tG)) (fun at_ ⟨ha,he⟩=>?_)
 have hsl:Utf.step (b.drop at_)≤b.length-at_:=by
  have:=(Utf.wk_le (b.drop at_) 4).2
  rw[qag]at this
  exact this
 repeat' first|refine T.cut (a:=z9_10) (fun _:Unit=>⟨[(0,.vec (.int .u8) b),(3,.int .i64 at_),(4,.int .i64 (Utf.step (b.drop at_)))],[]⟩) (fun _=>True) ?_ (fun _ _=>?_)|refine tU ?_|refine qaa [] [] rfl ?_|refine qac ?_ ?_|(refine tI ?_;intro hyp)|intro hyp0|exact tZ|omega
 ·refine T.loop (fun x:Nat×Nat=>⟨[(0,.vec (.int .u8) b),(3,.int .i64 at_),(4,.int .i64 x.2),(5,.int .i64 x.1)],[]⟩) (fun x=>1≤x.1∧x.1≤5∧x.2=Utf.wk (b.drop at_) (x.1-1)) (fun x=>5-x.1) (1,0) ⟨by simp,by simp,rfl⟩ (qaa [] [] rfl (by exact tG)) (fun⟨k,n⟩ ⟨h1,h2,h3⟩=>?_)
  dsimp only at h1 h2 h3 ⊢
  have hmem:∀a∈(b.drop at_).take k,Utf.Byte a:=fun a ha=>hb a (qai (List.mem_of_mem_take ha))
  repeat' first|refine tU ?_|refine qaa [] [] rfl ?_|refine qac ?_ ?_|(refine tI ?_;intro hyp)|intro hyp0|exact tZ|omega
  ·exact (hmem _ hyp).1
  ·exact (hmem _ hyp).2
  ·refine⟨(k+1,k),⟨by simp,by simp only;omega,?_⟩,by simp only;omega,(qaa [] [] rfl (by exact tG))⟩
   match k,h1,hyp with
   | k+1,_,hyp =>
    simp only[Nat.add_sub_cancel]
    rw[Utf.wk,if_pos ⟨by simp;omega,hyp⟩]
  ·refine⟨(k+1,n),⟨by simp,by simp only;omega,?_⟩,by simp only;omega,(qaa [] [] rfl (by exact tG))⟩
   match k,h1,hyp,h3 with
   | k+1,_,hyp,h3 =>
    simp only[Nat.add_sub_cancel]at h3 ⊢
    rw[h3]
    conv=>rhs;rw[Utf.wk]
    rw[if_neg (fun q=>by rw[hyp]at q;exact absurd q.2 (by simp))]
  ·have e:n=Utf.step (b.drop at_):=by
    rw[h3,Utf.step]
    rcases hyp with q|q
    ·obtain rfl:k=5:=by omega
     rfl
    ·exact (jtr _ 4 (k-1) (by simp;omega) (by omega)).symm
   exact⟨(),by rw[e];exact (qaa [] [] rfl (by exact tG))⟩
 ·rw[he,Utf.vB_stop _ (fun e=>by have:=congrArg qap e;simp at this;omega) (by omega)]
 ·refine⟨at_+Utf.step (b.drop at_),⟨by omega,?_⟩,by omega,(qaa [] [] rfl (by exact tG))⟩
  rw[he,Utf.vB_go _ (by omega),qaq]
 ·have e:b.drop at_=[]:=List.drop_eq_nil_of_le (by omega)
  rw[he,e]
  rfl)
theorem jrE:Fre 38 sp_r7valid:=ofF (u1 q_r7valid) jrD fun _=>rfl
end
section
open Go.RowKit
set_option maxRecDepth 100000
set_option maxHeartbeats 4000000
theorem jjT (l:List (List Int)) (k:Nat) (r lo hi:Int) (e:l[k]?=some [lo,hi]) (h0:Utf.hit (l.take k) r=false) (h:(decide (lo≤r)&&decide (r≤hi))=false):Utf.hit (l.take (k+1)) r=false:=by
 rw[Utf.hit_snoc l k (List.getElem?_eq_some_iff.1 e).1 r lo hi e,h0,h]
 rfl
abbrev q_width (r:Int):QA:=([.int .i32 r],I32 r,.ret (.int .i64 (Utf.width r)))
def sp_width:=spQ (u1 q_width)
theorem jgz:W1 (hA sp_width) q_width:=w1 (aA rfl)
theorem jwG:Al 95 sp_width:=ofA (u1 q_width) fun r hG=>tfi .nil 0 jeN (by
 dsimp only[u1,q_width]at hG ⊢
 repeat' first|refine tU ?_|refine qaa [] [] rfl ?_|simp only[jtb]|simp only[jtc]|refine qac ?_ ?_|(refine tI ?_;intro hyp)|intro hyp0|exact tZ|omega
 ·have:Utf.noWidth r=true:=by simp only[Utf.noWidth,HB,ne_eq,reduceCtorEq];exact hyp
  simp only[Utf.width,this,if_true]
 have hno:Utf.noWidth r=false:=by simp only[Utf.noWidth,HB,ne_eq,reduceCtorEq];exact hyp
 have hyes:∀lo hi:Int,[lo,hi]∈Utf.nones→lo≤r∧r≤hi→0=Utf.width r:=fun lo hi hm h=>by
  have e:Utf.hit Utf.nones r=true:=by
   rw[Utf.hit,qam]
   exact⟨_,hm,by simp;exact h⟩
  simp only[Utf.width,hno,e,qad,if_false,if_true]
 have hnx:∀(k:Nat) (lo hi:Int),Utf.nones[k]?=some [lo,hi]→Utf.hit (Utf.nones.take k) r=false→(¬lo≤r∨¬r≤hi)→Utf.hit (Utf.nones.take (k+1)) r=false:=fun k lo hi e h0 h=>jjT _ k r lo hi e h0 (by simp only[HB,ne_eq,reduceCtorEq];exact h)
 have hwy:∀lo hi:Int,Utf.hit Utf.nones r=false→[lo,hi]∈Utf.wides→lo≤r∧r≤hi→2=Utf.width r:=fun lo hi h0 hm h=>by
  have e:Utf.hit Utf.wides r=true:=by
   rw[Utf.hit,qam]
   exact⟨_,hm,by simp;exact h⟩
  simp only[Utf.width,hno,h0,e,qad,if_false,if_true]
 have hwx:∀(k:Nat) (lo hi:Int),Utf.wides[k]?=some [lo,hi]→Utf.hit (Utf.wides.take k) r=false→(¬lo≤r∨¬r≤hi)→Utf.hit (Utf.wides.take (k+1)) r=false:=fun k lo hi e h0 h=>jjT _ k r lo hi e h0 (by simp only[HB,ne_eq,reduceCtorEq];exact h)
 refine T.loop (fun k:Nat=>⟨[(0,.int .i32 r),(29,.agg noneT),(30,.int .i64 k)],[]⟩) (fun k=>k≤3∧Utf.hit (Utf.nones.take k) r=false) (fun k=>3-k) 0 ⟨by omega,rfl⟩ (qaa [] [] rfl (by first|(simp only[PB,SAM,seval,rdB,Hk.out zc,noneT];done)|(simp only[PB,SAM,seval,rdB,Hk.out zc,noneT];simp)|simp[noneT,PB,SAM,seval,rdB,Hk.out zc])) (fun k ⟨hk,hh⟩=>?_)
 rcases (show k=0∨k=1∨k=2∨k=3 by omega)with rfl|rfl|rfl|rfl
 all_goals
  repeat' first|refine tU ?_|refine qaa [] [] rfl ?_|simp only[jtb]|simp only[jtc]|simp only[noneT]|exact hyes _ _ (by decide) hyp|exact⟨1,⟨by omega,hnx 0 _ _ rfl hh hyp⟩,by omega,(qaa [] [] rfl (by exact tG))⟩|exact⟨2,⟨by omega,hnx 1 _ _ rfl hh hyp⟩,by omega,(qaa [] [] rfl (by exact tG))⟩|exact⟨3,⟨by omega,hnx 2 _ _ rfl hh hyp⟩,by omega,(qaa [] [] rfl (by exact tG))⟩|refine qac ?_ ?_|(refine tI ?_;intro hyp)|intro hyp0|exact tZ|omega
 have hhn:Utf.hit Utf.nones r=false:=hh
 refine T.loop (fun k:Nat=>⟨[(0,.int .i32 r),(44,.agg wideT),(45,.int .i64 k)],[]⟩) (fun k=>k≤10∧Utf.hit (Utf.wides.take k) r=false) (fun k=>10-k) 0 ⟨by omega,rfl⟩ (qaa [] [] rfl (by first|(simp only[PB,SAM,seval,rdB,Hk.out zc,wideT];done)|(simp only[PB,SAM,seval,rdB,Hk.out zc,wideT];simp)|simp[wideT,PB,SAM,seval,rdB,Hk.out zc])) (fun k ⟨hk,hw⟩=>?_)
 rcases (show k=0∨k=1∨k=2∨k=3∨k=4∨k=5∨k=6∨k=7∨k=8∨k=9∨k=10 by omega)with rfl|rfl|rfl|rfl|rfl|rfl|rfl|rfl|rfl|rfl|rfl
 all_goals
  have hw':=hw
  clear hw
  repeat' first|refine tU ?_|refine qaa [] [] rfl ?_|simp only[wideT]|exact hwy _ _ hhn (by decide) hyp|exact⟨1,⟨by omega,hwx 0 _ _ rfl hw' hyp⟩,by omega,(qaa [] [] rfl (by exact tG))⟩|exact⟨2,⟨by omega,hwx 1 _ _ rfl hw' hyp⟩,by omega,(qaa [] [] rfl (by exact tG))⟩|exact⟨3,⟨by omega,hwx 2 _ _ rfl hw' hyp⟩,by omega,(qaa [] [] rfl (by exact tG))⟩|exact⟨4,⟨by omega,hwx 3 _ _ rfl hw' hyp⟩,by omega,(qaa [] [] rfl (by exact tG))⟩|exact⟨5,⟨by omega,hwx 4 _ _ rfl hw' hyp⟩,by omega,(qaa [] [] rfl (by exact tG))⟩|exact⟨6,⟨by omega,hwx 5 _ _ rfl hw' hyp⟩,by omega,(qaa [] [] rfl (by exact tG))⟩|exact⟨7,⟨by omega,hwx 6 _ _ rfl hw' hyp⟩,by omega,(qaa [] [] rfl (by exact tG))⟩|exact⟨8,⟨by omega,hwx 7 _ _ rfl hw' hyp⟩,by omega,(qaa [] [] rfl (by exact tG))⟩|exact⟨9,⟨by omega,hwx 8 _ _ rfl hw' hyp⟩,by omega,(qaa [] [] rfl (by exact tG))⟩|exact⟨10,⟨by omega,hwx 9 _ _ rfl hw' hyp⟩,by omega,(qaa [] [] rfl (by exact tG))⟩|refine qac ?_ ?_|(refine tI ?_;intro hyp)|intro hyp0|exact tZ|omega
 have hww:Utf.hit Utf.wides r=false:=hw'
 simp only[Utf.width,hno,hhn,hww,qad,if_false])
theorem jmw:Fre 95 sp_width:=ofF (u1 q_width) jwG fun _=>rfl
abbrev q_valid (b:List Int):QA:=([.vec (.int .u8) b],(∀a∈b,Utf.Byte a)∧b.length≤1048576,.ret (.bool (Utf.vB b)))
def sp_valid:=spQ (u1 q_valid)
theorem jo0:W1 (hA sp_valid) q_valid:=w1 (aA rfl)
theorem jwH:Al 94 sp_valid:=ofA (u1 q_valid) fun b hG=>tfi .nil 0 jjM (by
 dsimp only[u1,q_valid]at hG ⊢
 obtain⟨hb,hl⟩:=hG
 have hsz:=jbZ b
 have hz:(Utf8.encode 65533).size=3:=by decide
 repeat' first|refine tU ?_|refine qaa [] [] rfl ?_|refine qac ?_ ?_|(refine tI ?_;intro hyp)|intro hyp0|exact tZ|omega
 refine T.loop (fun p:Nat=>⟨[(0,.vec (.int .u8) b),(3,.int .i64 p),(8,.ptr 0 0 0)],[.iter (jas b) p]⟩) (fun p=>p≤b.length∧Utf.vB b=Utf.vB (b.drop p)) (fun p=>b.length-p) 0 ⟨by omega,rfl⟩ (qaa [0] [] rfl (by simp only[PB,SAM,seval,rdB,Hk.out zc])) (fun p ⟨hp,hv⟩=>?_)
 rcases (show p=b.length∨p<b.length by omega)with h|h
 ·have hw:(p<(jas b).size)=False:=eq_false (by omega)
  repeat' first|refine tU ?_|refine qaa [] [] rfl ?_|refine qac ?_ ?_|(refine tI ?_;intro hyp)|intro hyp0|exact tZ|omega
  rw[hv,h,List.drop_length,decide_eq_true rfl]
  rfl
 ·have hw:(p<(jas b).size)=True:=eq_true (by omega)
  have hdec:=Utf.decode_str b hb p h
  have hbd:∀x∈b.drop p,Utf.Byte x:=fun x hx=>hb x (qai hx)
  have hne:b.drop p≠[]:=by intro e;have:=congrArg qap e;simp at this;omega
  by_cases h0:Utf.step (b.drop p)=0
  ·rw[if_pos h0,if_pos h0]at hdec
   have hw2:=hdec.1
   have hw3:=hdec.2
   have hw4:=hz
   repeat' first|refine tU ?_|refine qaa [] [] rfl ?_|refine qac ?_ ?_|(refine tI ?_;intro hyp)|intro hyp0|exact tZ|omega
   ·rw[hv]
    exact (Utf.vB_stop _ hne h0).symm
   ·obtain⟨⟨⟨q1,q2⟩,q3⟩,q4⟩:=hyp
    exact absurd h0 (Utf.step_broken (b.drop p) hbd (by simp;omega) (by rw[Utf.drop_getD];exact q2) (by rw[Utf.drop_getD];exact q3) (by rw[Utf.drop_getD];exact q4))
  ·rw[if_neg h0,if_neg h0]at hdec
   have hw2:=hdec.1
   have hw3:=hdec.2
   have hnt:=Utf.num_take _ hbd h0
   have hsl:Utf.step (b.drop p)≤b.length-p:=by
    have:=(Utf.wk_le (b.drop p) 4).2
    rw[qag]at this
    exact this
   have hw4:(Utf8.encode (Utf.num (qan (Utf.step (qas p b)) (qas p b)))).size=Utf.step (b.drop p):=by
    rw[←jay,joY]
    exact hnt.2.2
   repeat' first|refine tU ?_|refine qaa [] [] rfl ?_|refine qac ?_ ?_|(refine tI ?_;intro hyp)|intro hyp0|exact tZ|omega
   ·obtain⟨q1,q2⟩:=hyp
    have:=Utf.broken_step (b.drop p) hbd h0 q1
    simp only[Utf.drop_getD,qag,Nat.add_zero]at this
    omega
   ·exact⟨p+Utf.step (b.drop p),⟨by omega,by rw[hv,Utf.vB_go _ h0,qaq]⟩,by omega,qaa [0] [] rfl (by simp only[PB,SAM,seval,rdB,Hk.out zc];simp)⟩)
theorem jwI:Fre 94 sp_valid:=ofF (u1 q_valid) jwH fun _=>rfl
end
end
end Go.Proofs.YtienkkicehmchaaGreatDoor

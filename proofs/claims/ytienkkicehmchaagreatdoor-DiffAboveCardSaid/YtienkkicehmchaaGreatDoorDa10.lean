/- Texts of this claim, merged by a program of this claim: FUtf3, FUtf4. -/
import Derived.Test.YtienkkicehmchaaGreatDoorDa9
namespace Go.Proofs.YtienkkicehmchaaGreatDoor
set_option linter.unusedVariables false
set_option linter.unusedSimpArgs false
section
open Go.RowKit
set_option maxRecDepth 100000
set_option maxHeartbeats 4000000
def NoW (b:List Int) (n last:Nat):Prop:=(b.length=1→∀s:Int,128≤s→s≤191→Utf.wholeB (b.getD 0 0::s::List.replicate (n-2) (Utf.pad last))=false)∧(b.length≠1→Utf.wholeB (Utf.tryOf b n last)=false)
theorem jn6 (k m:Nat) (a v:Int):(List.replicate k a++List.replicate (m+1) (0:Int)).set k v=List.replicate k a++v::List.replicate m 0:=by
 rw[List.set_append_right _ _ (by simp)]
 simp[List.replicate_succ]
theorem jjM (k:Nat) (a:Int) (l:List Int):List.replicate k a++a::l=List.replicate (k+1) a++l:=by
 rw[List.replicate_succ']
 simp
theorem jlY (n k:Nat) (h:k<n) (a v:Int):(List.replicate k a++List.replicate (n-k) (0:Int)).set k v=List.replicate k a++v::List.replicate (n-(k+1)) 0:=by
 have:=jn6 k (n-(k+1)) a v
 rwa [show n-(k+1)+1=n-k by omega]at this
theorem jn7 (k:Nat) (a v w:Int) (l:List Int):(List.replicate k a++v::l).set k w=List.replicate k a++w::l:=by
 rw[List.set_append_right _ _ (by simp)]
 simp
theorem len1 {b:List Int}(h:(b.length:Int)=1):∃a,b=[a]:=by
 match b,h with
 | [a],_=>exact⟨a,rfl⟩
theorem jmH {b:List Int}(hb:∀a∈b,Utf.Byte a) (h0:¬(b.length:Int)=0) (h3:¬3<(b.length:Int)) (h:∀n last,b.length+1≤n→n<5→last<2→NoW b n last):Utf.beginsB b=false:=by
 by_cases h1:b.length=1
 ·obtain⟨a,rfl⟩:=len1 (by omega:(b.length:Int)=1)
  exact Utf.begins_not1 a (hb a (by simp)) fun n last s q1 q2 q3 q4 q5=>(h n last (by simpa using q1) (by omega) q3).1 rfl s q4 q5
 ·exact Utf.begins_not b hb (by omega) (by omega) fun n last q1 q2 q3=>(h n last q1 (by omega) q3).2 h1
theorem jhN {b:List Int}(hb:∀a∈b,Utf.Byte a) (h0:¬(b.length:Int)=0){ext:List Int}(he:∀a∈ext,Utf.Byte a) (h2:ext≠[]) (h:Utf.wholeB (b++ext)=true):Utf.beginsB b=true :=
 Utf.begins_of b ext hb he (fun e=>by subst e;simp at h0) h2 h
theorem jiu (m last:Nat):∀a∈List.replicate m (Utf.pad last),Utf.Byte a:=fun a ha=>by
 rw[List.eq_of_mem_replicate ha]
 exact Utf.pad_byte last
abbrev je4 (b:List Int):List CV:=[.vec (.int .u8) b]
abbrev je5 (b:List Int):Prop×Res:=(∀a∈b,Utf.Byte a,.ret (.bool (Utf.beginsB b)))
noncomputable def sp_r7begins:Spec:=spOf (α:=(List Int)) (fun b=>je4 b) fun b=>je5 b
theorem jdI (b:List Int):sp_r7begins (je4 b)=some (je5 b):=jad _ injS b
theorem jkE:Alias Tryz.prog E0 124 sp_r7begins:=Alias.of fun b hG=>TF.intro (V:=(VV [(87,conF [.sl (.int .u8)] sp_r7whole)] (.cons (jaa jb2) (Fresh.soundF jdt) GOk.nil) 73 0)) jdf rfl rfl (by
 dsimp only[je4,je5]at hG ⊢
 repeat' first|simp only[SA,seval,rdB,jab]|simp only[hw]|simp only[hw2]|simp only[hw3]|refine tT ?_|refine Cos.intro [] [] rfl ?_|refine And.intro ?_ ?_|exact tC|(refine tI ?_;intro hyp)|intro hyp0|omega
 ·rcases hyp with q|q
  ·match b,q with
   | [],_=>rfl
  ·match b,q with
   | _::_::_::_::_,_=>rfl
   | [],q=>simp at q
   | [_],q=>simp at q
   | [_,_],q=>simp at q
   | [_,_,_],q=>simp at q
 obtain⟨h0,h3⟩:=hyp
 refine T.loop (fun n:Nat=>⟨[(0,.vec (.int .u8) b),(3,.int .i64 n)],[]⟩) (fun n=>b.length+1≤n∧n≤5∧∀n' last,b.length+1≤n'→n'<n→last<2→NoW b n' last) (fun n=>5-n) (b.length+1) ⟨by omega,by omega,fun n' last h1 h2=>by omega⟩ (Cos.intro [] [] rfl (by (simp only[SA,seval,rdB,jab]);first|done|(repeat' apply And.intro)<;>first|rfl|omega|simp)) (fun n ⟨hn1,hn2,hall⟩=>?_)
 repeat' first|simp only[SA,seval,rdB,jab]|simp only[hw]|simp only[hw2]|simp only[hw3]|refine tT ?_|refine Cos.intro [] [] rfl ?_|refine And.intro ?_ ?_|exact tC|(refine tI ?_;intro hyp)|intro hyp0|omega
 rotate_left
 ·exact (jmH hG h0 h3 (fun n' last q1 q2 q3=>hall n' last q1 (by omega) q3)).symm
 refine T.loop (fun l:Nat=>⟨[(0,.vec (.int .u8) b),(3,.int .i64 n),(4,.int .i64 l)],[]⟩) (fun l=>l≤2∧∀last,last<l→NoW b n last) (fun l=>2-l) 0 ⟨by omega,fun last h1=>by omega⟩ (Cos.intro [] [] rfl (by (simp only[SA,seval,rdB,jab]);first|done|(repeat' apply And.intro)<;>first|rfl|omega|simp)) (fun l ⟨hl,hnow⟩=>?_)
 have hbn:b.length<n:=by omega
 have hw:List.take (min b.length n) b++List.drop (min b.length n) (List.replicate n (Utf.pad l))=Utf.tryOf b n l:=by
  rw[Nat.min_eq_left (by omega),List.take_of_length_le (Nat.le_refl _),List.drop_replicate]
  rfl
 have hlen:(Utf.tryOf b n l).length=n:=by
  simp only[Utf.tryOf,List.length_append,List.length_replicate]
  omega
 have hw2:List.take n (Utf.tryOf b n l)=Utf.tryOf b n l:=List.take_of_length_le (by omega)
 have hby:∀a∈Utf.tryOf b n l,0≤a∧a<256:=fun a ha=>by
  simp only[Utf.tryOf,List.mem_append]at ha
  rcases ha with q|q
  ·exact hG a q
  ·exact jiu _ _ a q
 repeat' first|refine T.cut (a:=z5_23) (fun _:Unit=>⟨[(0,.vec (.int .u8) b),(3,.int .i64 n),(4,.int .i64 l),(5,.slice 0 0 1 n n)],[.seq (.int .u8) (List.replicate n (Utf.pad l))]⟩) (fun _=>True) ?_ (fun _ _=>?_)|simp only[SA,seval,rdB,jab]|simp only[hw]|simp only[hw2]|simp only[hw3]|refine tT ?_|refine Cos.intro [] [] rfl ?_|exact⟨n+1,⟨by omega,by omega,fun n' last q1 q2 q3=>if e:n'=n then by subst e;exact hnow last (by omega) else hall n' last q1 (by omega) q3⟩,by omega,(Cos.intro [] [] rfl (by (simp only[SA,seval,rdB,jab]);first|done|(repeat' apply And.intro)<;>first|rfl|omega|simp))⟩|refine And.intro ?_ ?_|exact tC|(refine tI ?_;intro hyp)|intro hyp0|omega
 ·refine T.loop (fun k:Nat=>⟨[(0,.vec (.int .u8) b),(3,.int .i64 n),(4,.int .i64 l),(5,.slice 0 0 1 n n),(34,.int .i64 n),(35,.int .i64 k)],[.seq (.int .u8) (List.replicate k (Utf.pad l)++List.replicate (n-k) (0:Int))]⟩) (fun k=>k≤n) (fun k=>n-k) 0 (by omega) (Cos.intro [0] [] rfl (by simp only[SA,seval,rdB,jab];simp)) (fun k hk=>?_)
  repeat' first|simp only[SA,seval,rdB,jab]|simp only[hw]|simp only[hw2]|simp only[hw3]|refine tT ?_|refine And.intro ?_ ?_|exact tC|(refine tI ?_;intro hyp)|intro hyp0|omega
  ·have hp:Utf.pad l=191:=if_pos (by omega)
   refine⟨k+1,by omega,by omega,Cos.intro [0] [] rfl ?_⟩
   rw[jlY _ _ (by omega),jn7,hp,jjM]
   simp only[SA,seval,rdB,jab]
   simp
  ·have hp:Utf.pad l=128:=if_neg (by omega)
   refine⟨k+1,by omega,by omega,Cos.intro [0] [] rfl ?_⟩
   rw[jlY _ _ (by omega),hp,jjM]
   simp only[SA,seval,rdB,jab]
   simp
  ·obtain rfl:k=n:=by omega
   refine⟨(),Cos.intro [0] [] rfl ?_⟩
   simp only[SA,seval,rdB,jab,Nat.sub_self,List.replicate_zero]
   simp
 ·obtain⟨b0,rfl⟩:=len1 hyp
  have hw3:∀s:Int,List.take n (b0::s::List.replicate (n-2) (Utf.pad l))=b0::s::List.replicate (n-2) (Utf.pad l):=fun s=>List.take_of_length_le (by simp;simp at hbn;omega)
  have hq:Utf.tryOf [b0] n l=b0::Utf.pad l::List.replicate (n-2) (Utf.pad l):=by
   simp only[Utf.tryOf,List.length_cons,List.length_nil,List.singleton_append]
   rw[show n-(0+1)=n-2+1 by omega,List.replicate_succ]
  have hb0:=hG b0 (by simp)
  refine T.loop (fun x:Int×Int=>⟨[(0,.vec (.int .u8) [b0]),(3,.int .i64 n),(4,.int .i64 l),(5,.slice 0 0 1 n n),(7,.int .i64 x.1)],[.seq (.int .u8) (b0::x.2::List.replicate (n-2) (Utf.pad l))]⟩) (fun x=>128≤x.1∧x.1≤192∧∀s,128≤s→s<x.1→Utf.wholeB (b0::s::List.replicate (n-2) (Utf.pad l))=false) (fun x=>(192-x.1).toNat) (128,Utf.pad l) ⟨by omega,by omega,fun s h1 h2=>by omega⟩ (Cos.intro [0] [] rfl (by rw[hq];simp only[SA,seval,rdB,jab];exact Nat.le_refl _)) (fun⟨s,s'⟩ ⟨h1,h2,hno⟩=>?_)
  dsimp only at h1 h2 hno ⊢
  have hw:IntKind.u8.wrap s=s:=w_u8 (by omega)
  have hsb:∀a∈s::List.replicate (n-2) (Utf.pad l),s≤191→Utf.Byte a:=fun a ha hs=>by
   simp only[List.mem_cons]at ha
   rcases ha with rfl|q
   ·exact⟨by omega,by omega⟩
   ·exact jiu _ _ a q
  have hall2:∀a∈b0::s::List.replicate (n-2) (Utf.pad l),s≤191→0≤a∧a<256:=fun a ha hs=>by
   rw[List.mem_cons]at ha
   rcases ha with rfl|q
   ·exact hb0
   ·exact hsb a q hs
  repeat' first|simp only[SA,seval,rdB,jab]|simp only[hw]|simp only[hw2]|simp only[hw3]|refine tT ?_|refine Cos.intro [] [] rfl ?_|refine And.intro ?_ ?_|exact tC|(refine tI ?_;intro hyp)|intro hyp0|omega
  ·exact (hall2 _ (by simpa using hyp) ‹_›).1
  ·exact (hall2 _ (by simpa using hyp) ‹_›).2
  ·exact (jhN hG h0 (ext:=s::List.replicate (n-2) (Utf.pad l)) (fun a ha=>hsb a ha ‹_›) (by simp) hyp).symm
  ·refine⟨(s+1,s),⟨by omega,by omega,fun t q1 q2=>?_⟩,by simp only;omega,Cos.intro [0] [] rfl (by simp only[SA,seval,rdB,jab];exact Nat.le_refl _)⟩
   by_cases e:t=s
   ·subst e
    exact hyp
   ·exact hno t q1 (by simp only at q2;omega)
  ·refine⟨l+1,⟨by omega,fun last q=>?_⟩,by omega,Cos.intro [] [] rfl (by simp only[SA,seval,rdB,jab];simp)⟩
   by_cases e:last=l
   ·subst e
    exact⟨fun _ t q1 q2=>hno t q1 (by omega),fun q=>absurd rfl q⟩
   ·exact hnow last (by omega)
 ·exact hby _ hyp |>.1
 ·exact hby _ hyp |>.2
 ·exact (jhN hG h0 (ext:=List.replicate (n-b.length) (Utf.pad l)) (jiu _ _) (fun e=>by have:=congrArg List.length e;simp at this;omega) hyp).symm
 ·have hne:¬b.length=1:=by omega
  refine⟨l+1,⟨by omega,fun last q=>?_⟩,by omega,Cos.intro [] [] rfl (by simp only[SA,seval,rdB,jab];simp)⟩
  by_cases e:last=l
  ·subst e
   exact⟨fun q=>absurd q hne,fun _=>hyp⟩
  ·exact hnow last (by omega))
theorem jgF:Fresh Tryz.prog E0 124 sp_r7begins:=Alias.fresh jkE (fun x=>rfl)
end
section
open Go.RowKit
set_option maxRecDepth 100000
set_option maxHeartbeats 4000000
theorem jn8 (l:List Int):∀(m k:Nat),l.length≤k→k≤m→Utf.wk l m=Utf.wk l k
 | 0,k,h1,h2=>by
  obtain rfl:k=0:=by omega
  rfl
 | m+1,k,h1,h2=>by
  by_cases e:k=m+1
  ·rw[e]
  ·rw[←jn8 l m k h1 (by omega),Utf.wk,if_neg (by omega)]
theorem jhO:∀(l:List Int) (o:List Int) (b:Int),Utf.rtold o (l++[b])=Utf.rtold o l++(Utf.rfeed (Utf.rafter o l) b).1
 | [],o,b=>by simp[Utf.rtold,Utf.rafter]
 | a::l,o,b=>by simp[Utf.rtold,Utf.rafter,jhO l]
theorem jgG:∀(l:List Int) (o:List Int) (b:Int),Utf.rafter o (l++[b])=(Utf.rfeed (Utf.rafter o l) b).2
 | [],o,b=>by simp[Utf.rafter]
 | a::l,o,b=>by simp[Utf.rafter,jgG l]
theorem jjN (o:List Int) (b:Int):(Utf.rfeed o b).1.length≤2:=by
 unfold Utf.rfeed Utf.rfeed0
 repeat' split
 all_goals simp
theorem jjO:∀(l:List Int) (o:List Int),(Utf.rtold o l).length≤2*l.length
 | [],o=>by simp[Utf.rtold]
 | a::l,o=>by
  have:=jjN o a
  have:=jjO l (Utf.rfeed o a).2
  simp only[Utf.rtold,List.length_append,List.length_cons]
  omega
theorem jn9 (o:List Int):(Utf.rendT o).length≤1:=by
 unfold Utf.rendT
 split<;>simp
theorem jkF {l:List Int}(hl:∀a∈l,Utf.Byte a):(Utf.rafter [] l).length≤3∧∀a∈Utf.rafter [] l,Utf.Byte a:=Utf.rel_open _ _ (Utf.told_rel l hl Utf.start [] Utf.rel_start).2
abbrev jgH (o:List Int) (b:Int):List CV:=[.agg [.vec (.int .u8) o],.int .u8 b]
abbrev jgI (o:List Int) (b:Int):Prop×Res:=(o=[]∧0≤b∧b<256,.ret (.tup [.vec (.int .i32) (Utf.rfeed0 b).1,.agg [.vec (.int .u8) (Utf.rfeed0 b).2]]))
noncomputable def sp_r7feed0:Spec:=spOf (α:=(List Int)×Int) (fun⟨o,b⟩=>jgH o b) fun⟨o,b⟩=>jgI o b
theorem jiv (o:List Int) (b:Int):sp_r7feed0 (jgH o b)=some (jgI o b):=jad _ injS (o,b)
theorem jmI:Alias Tryz.prog E0 88 sp_r7feed0:=Alias.of fun⟨o,b⟩ hG=>TF.intro (V:=(VV [(87,conF [.sl (.int .u8)] sp_r7whole),(124,conF [.sl (.int .u8)] sp_r7begins)] (.cons (jaa jb2) (Fresh.soundF jdt) (.cons (jaa jdf) (Fresh.soundF jgF) GOk.nil)) 47 0)) jaN rfl rfl (by
 dsimp only[jgH,jgI]at hG ⊢
 obtain⟨rfl,hb⟩:=hG
 repeat' first|simp only[SA,seval,rdB,jab,jdI]|refine tT ?_|refine Cos.intro [] [0,1,2,3,4,5,6,7,8,9] rfl ?_|refine And.intro ?_ ?_|exact tC|(refine tI ?_;intro hyp)|intro hyp0|omega
 all_goals simp_all [Utf.rfeed0])
abbrev jkG (o:List Int):List CV:=[.agg [.vec (.int .u8) o]]
abbrev jkH (o:List Int):Prop×Res:=(True,.ret (.vec (.int .i32) (Utf.rendT o)))
noncomputable def sp_r7end:Spec:=spOf (α:=(List Int)) (fun o=>jkG o) fun o=>jkH o
theorem jb3 (o:List Int):sp_r7end (jkG o)=some (jkH o):=jad _ injS o
theorem jqF:Alias Tryz.prog E0 89 sp_r7end:=Alias.of fun o hG=>TF.intro (V:=(VV [] GOk.nil 8 0)) jcy rfl rfl (by
 dsimp only[jkG,jkH]at hG ⊢
 repeat' first|simp only[SA,seval,rdB]|refine tT ?_|refine Cos.intro [] [0,1,2,3,4,5,6,7,8,9] rfl ?_|refine And.intro ?_ ?_|exact tC|(refine tI ?_;intro hyp)|intro hyp0|omega
 all_goals simp_all [Utf.rendT])
abbrev jiw (o:List Int) (b:Int):List CV:=[.agg [.vec (.int .u8) o],.int .u8 b]
abbrev jix (o:List Int) (b:Int):Prop×Res:=((∀a∈o,Utf.Byte a)∧(0≤b∧b<256)∧o.length≤1000,.ret (.tup [.vec (.int .i32) (Utf.rfeed o b).1,.agg [.vec (.int .u8) (Utf.rfeed o b).2]]))
noncomputable def sp_r7feed:Spec:=spOf (α:=(List Int)×Int) (fun⟨o,b⟩=>jiw o b) fun⟨o,b⟩=>jix o b
theorem jbw (o:List Int) (b:Int):sp_r7feed (jiw o b)=some (jix o b):=jad _ injS (o,b)
theorem joa : Alias Tryz.prog E0 88 sp_r7feed := Alias.of fun ⟨o, b⟩ hG => TF.intro (V := (VV [(87, conF [.sl (.int .u8)] sp_r7whole), (124, conF [.sl (.int .u8)] sp_r7begins), (88, conA [.agg [.sl (.int .u8)], .any] sp_r7feed0)] (.cons (jaa jb2) (Fresh.soundF jdt) (.cons (jaa jdf) (Fresh.soundF jgF) (.cons (jaa jaN) (Alias.soundA jmI) GOk.nil))) 47 0)) jaN rfl rfl (by
  dsimp only [jiw, jix] at hG ⊢
  obtain ⟨ho, hb, hl⟩ := hG
  have hob : ∀ a ∈ o ++ [b], 0 ≤ a ∧ a < 256 := fun a ha => by
    rw [List.mem_append, List.mem_singleton] at ha
    rcases ha with q | rfl
    · exact ho a q
    · exact hb
  have h0 : (Utf.rfeed0 b).1.length ≤ 1 := by
    unfold Utf.rfeed0
    repeat' split
    all_goals simp
  repeat' first | simp only [SA, seval, rdB, jab, jdI, jiv] | refine tT ?_ | refine Cos.intro [] [0, 1, 2, 3, 4, 5, 6, 7, 8, 9] rfl ?_ | refine And.intro ?_ ?_ | exact tC | (refine tI ?_; intro hyp) | intro hyp0 | omega
  all_goals first
    | exact (hob _ hyp).1
    | exact (hob _ hyp).2
    | (simp_all [Utf.rfeed]; done)
    | (have : ¬ o.length = 0 := by omega
       simp_all [Utf.rfeed]))
abbrev jgJ (b:List Int):List CV:=[.vec (.int .u8) b]
abbrev jgK (b:List Int):Prop×Res:=((∀a∈b,Utf.Byte a)∧b.length≤4611686018427387904,.ret (.bool (Utf.vB b)))
noncomputable def sp_r7valid:Spec:=spOf (α:=(List Int)) (fun b=>jgJ b) fun b=>jgK b
theorem jbg (b:List Int):sp_r7valid (jgJ b)=some (jgK b):=jad _ injS b
theorem jmJ:Alias Tryz.prog E0 38 sp_r7valid:=Alias.of fun b hG=>TF.intro (V:=(VV [(87,conF [.sl (.int .u8)] sp_r7whole)] (.cons (jaa jb2) (Fresh.soundF jdt) GOk.nil) 41 0)) jgw rfl rfl (by
 dsimp only[jgJ,jgK]at hG ⊢
 obtain⟨hb,hl⟩:=hG
 repeat' first|simp only[SA,seval,rdB,jab]|refine tT ?_|refine Cos.intro [] [] rfl ?_|refine And.intro ?_ ?_|exact tC|(refine tI ?_;intro hyp)|intro hyp0|omega
 refine T.loop (fun at_:Nat=>⟨[(0,.vec (.int .u8) b),(3,.int .i64 at_)],[]⟩) (fun at_=>at_≤b.length∧Utf.vB b=Utf.vB (b.drop at_)) (fun at_=>b.length-at_) 0 ⟨by omega,rfl⟩ (Cos.intro [] [] rfl (by (simp only[SA,seval,rdB,jab]);first|done|(repeat' apply And.intro)<;>first|rfl|omega|simp)) (fun at_ ⟨ha,he⟩=>?_)
 have hsl:Utf.step (b.drop at_)≤b.length-at_:=by
  have:=(Utf.wk_le (b.drop at_) 4).2
  rw[List.length_drop]at this
  exact this
 repeat' first|refine T.cut (a:=z9_10) (fun _:Unit=>⟨[(0,.vec (.int .u8) b),(3,.int .i64 at_),(4,.int .i64 (Utf.step (b.drop at_)))],[]⟩) (fun _=>True) ?_ (fun _ _=>?_)|simp only[SA,seval,rdB,jab]|refine tT ?_|refine Cos.intro [] [] rfl ?_|refine And.intro ?_ ?_|exact tC|(refine tI ?_;intro hyp)|intro hyp0|omega
 ·refine T.loop (fun x:Nat×Nat=>⟨[(0,.vec (.int .u8) b),(3,.int .i64 at_),(4,.int .i64 x.2),(5,.int .i64 x.1)],[]⟩) (fun x=>1≤x.1∧x.1≤5∧x.2=Utf.wk (b.drop at_) (x.1-1)) (fun x=>5-x.1) (1,0) ⟨by simp,by simp,rfl⟩ (Cos.intro [] [] rfl (by (simp only[SA,seval,rdB,jab]);first|done|(repeat' apply And.intro)<;>first|rfl|omega|simp)) (fun⟨k,n⟩ ⟨h1,h2,h3⟩=>?_)
  dsimp only at h1 h2 h3 ⊢
  have hmem:∀a∈(b.drop at_).take k,Utf.Byte a:=fun a ha=>hb a (List.mem_of_mem_drop (List.mem_of_mem_take ha))
  repeat' first|simp only[SA,seval,rdB,jab]|refine tT ?_|refine Cos.intro [] [] rfl ?_|refine And.intro ?_ ?_|exact tC|(refine tI ?_;intro hyp)|intro hyp0|omega
  ·exact (hmem _ hyp).1
  ·exact (hmem _ hyp).2
  ·refine⟨(k+1,k),⟨by simp,by simp only;omega,?_⟩,by simp only;omega,(Cos.intro [] [] rfl (by (simp only[SA,seval,rdB,jab]);first|done|(repeat' apply And.intro)<;>first|rfl|omega|simp))⟩
   match k,h1,hyp with
   | k+1,_,hyp =>
    simp only[Nat.add_sub_cancel]
    rw[Utf.wk,if_pos ⟨by simp;omega,hyp⟩]
  ·refine⟨(k+1,n),⟨by simp,by simp only;omega,?_⟩,by simp only;omega,(Cos.intro [] [] rfl (by (simp only[SA,seval,rdB,jab]);first|done|(repeat' apply And.intro)<;>first|rfl|omega|simp))⟩
   match k,h1,hyp,h3 with
   | k+1,_,hyp,h3 =>
    simp only[Nat.add_sub_cancel]at h3 ⊢
    rw[h3]
    conv=>rhs;rw[Utf.wk]
    rw[if_neg (fun q=>by rw[hyp]at q;exact absurd q.2 (by simp))]
  ·have e:n=Utf.step (b.drop at_):=by
    rw[h3,Utf.step]
    rcases hyp with q|q
    ·obtain rfl:k=5:=by omega
     rfl
    ·exact (jn8 _ 4 (k-1) (by simp;omega) (by omega)).symm
   exact⟨(),by rw[e];exact (Cos.intro [] [] rfl (by (simp only[SA,seval,rdB,jab]);first|done|(repeat' apply And.intro)<;>first|rfl|omega|simp))⟩
 ·rw[he,Utf.vB_stop _ (fun e=>by have:=congrArg List.length e;simp at this;omega) (by omega)]
 ·refine⟨at_+Utf.step (b.drop at_),⟨by omega,?_⟩,by omega,(Cos.intro [] [] rfl (by (simp only[SA,seval,rdB,jab]);first|done|(repeat' apply And.intro)<;>first|rfl|omega|simp))⟩
  rw[he,Utf.vB_go _ (by omega),List.drop_drop]
 ·have e:b.drop at_=[]:=List.drop_eq_nil_of_le (by omega)
  rw[he,e]
  rfl)
theorem jmK:Fresh Tryz.prog E0 38 sp_r7valid:=Alias.fresh jmJ (fun x=>rfl)
end
end Go.Proofs.YtienkkicehmchaaGreatDoor

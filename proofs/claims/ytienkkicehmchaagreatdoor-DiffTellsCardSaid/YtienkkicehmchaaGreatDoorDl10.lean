/- Texts of this claim, merged by a program of this claim: FUtf3, FUtf4. -/
import Derived.Test.YtienkkicehmchaaGreatDoorDl6
import Derived.Test.YtienkkicehmchaaGreatDoorDl9
namespace Go.Proofs.YtienkkicehmchaaGreatDoor
open List renaming replicate→qaa,take_of_length_le→qad,set_append_right→qae,replicate_succ→qaf,length_append→qag,length_cons→qah,mem_append→qai,mem_cons→qaj,take→qak,length→qal
open Cos renaming intro→qab
open And renaming intro→qac
noncomputable section
set_option linter.unusedVariables false
set_option linter.unusedSimpArgs false
section
open Go.RowKit
set_option maxRecDepth 100000
set_option maxHeartbeats 4000000
def NoW (b:List Int) (n last:Nat):Prop:=(b.length=1→∀s:Int,128≤s→s≤191→Utf.wholeB (b.getD 0 0::s::qaa (n-2) (Utf.pad last))=false)∧(b.length≠1→Utf.wholeB (Utf.tryOf b n last)=false)
theorem jrS (k m:Nat) (a v:Int):(qaa k a++qaa (m+1) (0:Int)).set k v=qaa k a++v::qaa m 0:=by
 rw[qae _ _ (by simp)]
 simp[qaf]
theorem jmh (k:Nat) (a:Int) (l:List Int):qaa k a++a::l=qaa (k+1) a++l:=by
 rw[List.replicate_succ']
 simp
theorem jo0 (n k:Nat) (h:k<n) (a v:Int):(qaa k a++qaa (n-k) (0:Int)).set k v=qaa k a++v::qaa (n-(k+1)) 0:=by
 have:=jrS k (n-(k+1)) a v
 rwa [show n-(k+1)+1=n-k by omega]at this
theorem jrT (k:Nat) (a v w:Int) (l:List Int):(qaa k a++v::l).set k w=qaa k a++w::l:=by
 rw[qae _ _ (by simp)]
 simp
theorem len1 {b:List Int}(h:(b.length:Int)=1):∃a,b=[a]:=by
 match b,h with
 | [a],_=>exact⟨a,rfl⟩
theorem jp6 {b:List Int}(hb:∀a∈b,Utf.Byte a) (h0:¬(b.length:Int)=0) (h3:¬3<(b.length:Int)) (h:∀n last,b.length+1≤n→n<5→last<2→NoW b n last):Utf.beginsB b=false:=by
 by_cases h1:b.length=1
 ·obtain⟨a,rfl⟩:=len1 (by omega:(b.length:Int)=1)
  exact Utf.begins_not1 a (hb a (by simp)) fun n last s q1 q2 q3 q4 q5=>(h n last (by simpa using q1) (by omega) q3).1 rfl s q4 q5
 ·exact Utf.begins_not b hb (by omega) (by omega) fun n last q1 q2 q3=>(h n last q1 (by omega) q3).2 h1
theorem jkf {b:List Int}(hb:∀a∈b,Utf.Byte a) (h0:¬(b.length:Int)=0){ext:List Int}(he:∀a∈ext,Utf.Byte a) (h2:ext≠[]) (h:Utf.wholeB (b++ext)=true):Utf.beginsB b=true :=
 Utf.begins_of b ext hb he (fun e=>by subst e;simp at h0) h2 h
theorem jll (m last:Nat):∀a∈qaa m (Utf.pad last),Utf.Byte a:=fun a ha=>by
 rw[List.eq_of_mem_replicate ha]
 exact Utf.pad_byte last
abbrev q_r7begins (b:List Int):QA:=([.vec (.int .u8) b],∀a∈b,Utf.Byte a,.ret (.bool (Utf.beginsB b)))
def sp_r7begins:=spQ (u1 q_r7begins)
theorem jfp:W1 (hA sp_r7begins) q_r7begins:=w1 (aA rfl)
theorem jnP:Al 124 sp_r7begins:=ofA (u1 q_r7begins) fun b hG=>tfi (.f [.sl (.int .u8)] jcS je3 .nil) 0 jez (by
 dsimp only[u1,q_r7begins]at hG ⊢
 have zc:=Hk.mk (@jcD)
 repeat' first|refine tU ?_|refine qab [] [] rfl ?_|refine qac ?_ ?_|(refine tI ?_;intro hyp)|intro hyp0|exact tZ|omega
 ·rcases hyp with q|q
  ·match b,q with
   | [],_=>rfl
  ·match b,q with
   | _::_::_::_::_,_=>rfl
   | [],q=>simp at q
   | [_],q=>simp at q
   | [_,_],q=>simp at q
   | [_,_,_],q=>simp at q
 obtain⟨h0,h3⟩:=hyp
 refine T.loop (fun n:Nat=>⟨[(0,.vec (.int .u8) b),(3,.int .i64 n)],[]⟩) (fun n=>b.length+1≤n∧n≤5∧∀n' last,b.length+1≤n'→n'<n→last<2→NoW b n' last) (fun n=>5-n) (b.length+1) ⟨by omega,by omega,fun n' last h1 h2=>by omega⟩ (qab [] [] rfl (by exact tG)) (fun n ⟨hn1,hn2,hall⟩=>?_)
 repeat' first|refine tU ?_|refine qab [] [] rfl ?_|refine qac ?_ ?_|(refine tI ?_;intro hyp)|intro hyp0|exact tZ|omega
 rotate_left
 ·exact (jp6 hG h0 h3 (fun n' last q1 q2 q3=>hall n' last q1 (by omega) q3)).symm
 refine T.loop (fun l:Nat=>⟨[(0,.vec (.int .u8) b),(3,.int .i64 n),(4,.int .i64 l)],[]⟩) (fun l=>l≤2∧∀last,last<l→NoW b n last) (fun l=>2-l) 0 ⟨by omega,fun last h1=>by omega⟩ (qab [] [] rfl (by exact tG)) (fun l ⟨hl,hnow⟩=>?_)
 have hbn:b.length<n:=by omega
 have hw:qak (min b.length n) b++List.drop (min b.length n) (qaa n (Utf.pad l))=Utf.tryOf b n l:=by
  rw[Nat.min_eq_left (by omega),qad (Nat.le_refl _),List.drop_replicate]
  rfl
 have hlen:(Utf.tryOf b n l).length=n:=by
  simp only[Utf.tryOf,qag,List.length_replicate]
  omega
 have hw2:qak n (Utf.tryOf b n l)=Utf.tryOf b n l:=qad (by omega)
 have hby:∀a∈Utf.tryOf b n l,0≤a∧a<256:=fun a ha=>by
  simp only[Utf.tryOf,qai]at ha
  rcases ha with q|q
  ·exact hG a q
  ·exact jll _ _ a q
 repeat' first|refine T.cut (a:=z5_23) (fun _:Unit=>⟨[(0,.vec (.int .u8) b),(3,.int .i64 n),(4,.int .i64 l),(5,.slice 0 0 1 n n)],[.seq (.int .u8) (qaa n (Utf.pad l))]⟩) (fun _=>True) ?_ (fun _ _=>?_)|refine tU ?_|refine qab [] [] rfl ?_|exact⟨n+1,⟨by omega,by omega,fun n' last q1 q2 q3=>if e:n'=n then by subst e;exact hnow last (by omega) else hall n' last q1 (by omega) q3⟩,by omega,(qab [] [] rfl (by exact tG))⟩|refine qac ?_ ?_|(refine tI ?_;intro hyp)|intro hyp0|exact tZ|omega
 ·refine T.loop (fun k:Nat=>⟨[(0,.vec (.int .u8) b),(3,.int .i64 n),(4,.int .i64 l),(5,.slice 0 0 1 n n),(34,.int .i64 n),(35,.int .i64 k)],[.seq (.int .u8) (qaa k (Utf.pad l)++qaa (n-k) (0:Int))]⟩) (fun k=>k≤n) (fun k=>n-k) 0 (by omega) (qab [0] [] rfl (by simp only[PB,SAM,seval,rdB,Hk.out zc];simp)) (fun k hk=>?_)
  repeat' first|refine tU ?_|refine qac ?_ ?_|(refine tI ?_;intro hyp)|intro hyp0|exact tZ|omega
  ·have hp:Utf.pad l=191:=if_pos (by omega)
   refine⟨k+1,by omega,by omega,qab [0] [] rfl ?_⟩
   rw[jo0 _ _ (by omega),jrT,hp,jmh]
   simp only[PB,SAM,seval,rdB,Hk.out zc]
   simp
  ·have hp:Utf.pad l=128:=if_neg (by omega)
   refine⟨k+1,by omega,by omega,qab [0] [] rfl ?_⟩
   rw[jo0 _ _ (by omega),hp,jmh]
   simp only[PB,SAM,seval,rdB,Hk.out zc]
   simp
  ·obtain rfl:k=n:=by omega
   refine⟨(),qab [0] [] rfl ?_⟩
   simp only[PB,SAM,seval,rdB,Hk.out zc,Nat.sub_self,List.replicate_zero]
   simp
 ·obtain⟨b0,rfl⟩:=len1 hyp
  have hw3:∀s:Int,qak n (b0::s::qaa (n-2) (Utf.pad l))=b0::s::qaa (n-2) (Utf.pad l):=fun s=>qad (by simp;simp at hbn;omega)
  have hq:Utf.tryOf [b0] n l=b0::Utf.pad l::qaa (n-2) (Utf.pad l):=by
   simp only[Utf.tryOf,qah,List.length_nil,List.singleton_append]
   rw[show n-(0+1)=n-2+1 by omega,qaf]
  have hb0:=hG b0 (by simp)
  refine T.loop (fun x:Int×Int=>⟨[(0,.vec (.int .u8) [b0]),(3,.int .i64 n),(4,.int .i64 l),(5,.slice 0 0 1 n n),(7,.int .i64 x.1)],[.seq (.int .u8) (b0::x.2::qaa (n-2) (Utf.pad l))]⟩) (fun x=>128≤x.1∧x.1≤192∧∀s,128≤s→s<x.1→Utf.wholeB (b0::s::qaa (n-2) (Utf.pad l))=false) (fun x=>(192-x.1).toNat) (128,Utf.pad l) ⟨by omega,by omega,fun s h1 h2=>by omega⟩ (qab [0] [] rfl (by rw[hq];simp only[PB,SAM,seval,rdB,Hk.out zc];exact Nat.le_refl _)) (fun⟨s,s'⟩ ⟨h1,h2,hno⟩=>?_)
  dsimp only at h1 h2 hno ⊢
  have hw:IntKind.u8.wrap s=s:=w_u8 (by omega)
  have hsb:∀a∈s::qaa (n-2) (Utf.pad l),s≤191→Utf.Byte a:=fun a ha hs=>by
   simp only[qaj]at ha
   rcases ha with rfl|q
   ·exact⟨by omega,by omega⟩
   ·exact jll _ _ a q
  have hall2:∀a∈b0::s::qaa (n-2) (Utf.pad l),s≤191→0≤a∧a<256:=fun a ha hs=>by
   rw[qaj]at ha
   rcases ha with rfl|q
   ·exact hb0
   ·exact hsb a q hs
  repeat' first|refine tU ?_|refine qab [] [] rfl ?_|refine qac ?_ ?_|(refine tI ?_;intro hyp)|intro hyp0|exact tZ|omega
  ·exact (hall2 _ (by simpa using hyp) ‹_›).1
  ·exact (hall2 _ (by simpa using hyp) ‹_›).2
  ·exact (jkf hG h0 (ext:=s::qaa (n-2) (Utf.pad l)) (fun a ha=>hsb a ha ‹_›) (by simp) hyp).symm
  ·refine⟨(s+1,s),⟨by omega,by omega,fun t q1 q2=>?_⟩,by simp only;omega,qab [0] [] rfl (by simp only[PB,SAM,seval,rdB,Hk.out zc];exact Nat.le_refl _)⟩
   by_cases e:t=s
   ·subst e
    exact hyp
   ·exact hno t q1 (by simp only at q2;omega)
  ·refine⟨l+1,⟨by omega,fun last q=>?_⟩,by omega,qab [] [] rfl (by simp only[PB,SAM,seval,rdB,Hk.out zc];simp)⟩
   by_cases e:last=l
   ·subst e
    exact⟨fun _ t q1 q2=>hno t q1 (by omega),fun q=>absurd rfl q⟩
   ·exact hnow last (by omega)
 ·exact hby _ hyp |>.1
 ·exact hby _ hyp |>.2
 ·exact (jkf hG h0 (ext:=qaa (n-b.length) (Utf.pad l)) (jll _ _) (fun e=>by have:=congrArg qal e;simp at this;omega) hyp).symm
 ·have hne:¬b.length=1:=by omega
  refine⟨l+1,⟨by omega,fun last q=>?_⟩,by omega,qab [] [] rfl (by simp only[PB,SAM,seval,rdB,Hk.out zc];simp)⟩
  by_cases e:last=l
  ·subst e
   exact⟨fun q=>absurd q hne,fun _=>hyp⟩
  ·exact hnow last (by omega))
theorem jiU:Fre 124 sp_r7begins:=ofF (u1 q_r7begins) jnP fun _=>rfl
end
section
open Go.RowKit
set_option maxRecDepth 100000
set_option maxHeartbeats 4000000
theorem jrU (l:List Int):∀(m k:Nat),l.length≤k→k≤m→Utf.wk l m=Utf.wk l k
 | 0,k,h1,h2=>by
  obtain rfl:k=0:=by omega
  rfl
 | m+1,k,h1,h2=>by
  by_cases e:k=m+1
  ·rw[e]
  ·rw[←jrU l m k h1 (by omega),Utf.wk,if_neg (by omega)]
theorem jkg:∀(l:List Int) (o:List Int) (b:Int),Utf.rtold o (l++[b])=Utf.rtold o l++(Utf.rfeed (Utf.rafter o l) b).1
 | [],o,b=>by simp[Utf.rtold,Utf.rafter]
 | a::l,o,b=>by simp[Utf.rtold,Utf.rafter,jkg l]
theorem jiV:∀(l:List Int) (o:List Int) (b:Int),Utf.rafter o (l++[b])=(Utf.rfeed (Utf.rafter o l) b).2
 | [],o,b=>by simp[Utf.rafter]
 | a::l,o,b=>by simp[Utf.rafter,jiV l]
theorem jmi (o:List Int) (b:Int):(Utf.rfeed o b).1.length≤2:=by
 unfold Utf.rfeed Utf.rfeed0
 repeat' split
 all_goals simp
theorem jmj:∀(l:List Int) (o:List Int),(Utf.rtold o l).length≤2*l.length
 | [],o=>by simp[Utf.rtold]
 | a::l,o=>by
  have:=jmi o a
  have:=jmj l (Utf.rfeed o a).2
  simp only[Utf.rtold,qag,qah]
  omega
theorem jrV (o:List Int):(Utf.rendT o).length≤1:=by
 unfold Utf.rendT
 split<;>simp
theorem jnQ {l:List Int}(hl:∀a∈l,Utf.Byte a):(Utf.rafter [] l).length≤3∧∀a∈Utf.rafter [] l,Utf.Byte a:=Utf.rel_open _ _ (Utf.told_rel l hl Utf.start [] Utf.rel_start).2
abbrev jp7:List AK:=[.agg [.sl (.int .u8)],.any]
abbrev q_r7feed0 (o:List Int) (b:Int):QA:=([.agg [.vec (.int .u8) o],.int .u8 b],o=[]∧0≤b∧b<256,.ret (.tup [.vec (.int .i32) (Utf.rfeed0 b).1,.agg [.vec (.int .u8) (Utf.rfeed0 b).2]]))
def sp_r7feed0:=spQ (u2 q_r7feed0)
theorem jlm:W2 (hA sp_r7feed0) q_r7feed0:=w2 (aA rfl)
theorem jp8:Al 88 sp_r7feed0:=ofA (u2 q_r7feed0) fun⟨o,b⟩ hG=>tfi (.f [.sl (.int .u8)] jcS je3 (.f [.sl (.int .u8)] jez jiU .nil)) 0 jbc (by
 dsimp only[u2,q_r7feed0]at hG ⊢
 have zc:=Hk.mk (qac @jcD @jfp)
 obtain⟨rfl,hb⟩:=hG
 repeat' first|refine tU ?_|refine qab [] [0,1,2,3,4,5,6,7,8,9] rfl ?_|refine qac ?_ ?_|(refine tI ?_;intro hyp)|intro hyp0|exact tZ|omega
 all_goals simp_all [Utf.rfeed0])
abbrev juw:List AK:=[.agg [.sl (.int .u8)]]
abbrev q_r7end (o:List Int):QA:=([.agg [.vec (.int .u8) o]],True,.ret (.vec (.int .i32) (Utf.rendT o)))
def sp_r7end:=spQ (u1 q_r7end)
theorem jnR:W1 (hA sp_r7end) q_r7end:=w1 (aA rfl)
theorem jux:Al 89 sp_r7end:=ofA (u1 q_r7end) fun o hG=>tfi .nil 0 jdC (by
 dsimp only[u1,q_r7end]at hG ⊢
 repeat' first|refine tU ?_|refine qab [] [0,1,2,3,4,5,6,7,8,9] rfl ?_|refine qac ?_ ?_|(refine tI ?_;intro hyp)|intro hyp0|exact tZ|omega
 all_goals simp_all [Utf.rendT])
abbrev jrW:List AK:=[.agg [.sl (.int .u8)],.any]
abbrev q_r7feed (o:List Int) (b:Int):QA:=([.agg [.vec (.int .u8) o],.int .u8 b],(∀a∈o,Utf.Byte a)∧(0≤b∧b<256)∧o.length≤1000,.ret (.tup [.vec (.int .i32) (Utf.rfeed o b).1,.agg [.vec (.int .u8) (Utf.rfeed o b).2]]))
def sp_r7feed:=spQ (u2 q_r7feed)
theorem jmk:W2 (hA sp_r7feed) q_r7feed:=w2 (aA rfl)
theorem jrX : Al 88 sp_r7feed := ofA (u2 q_r7feed) fun ⟨o, b⟩ hG => tfi (.f [.sl (.int .u8)] jcS je3 (.f [.sl (.int .u8)] jez jiU (.a jp7 jbc jp8 .nil))) 0 jbc (by
  dsimp only [u2, q_r7feed] at hG ⊢
  have zc := Hk.mk (qac @jcD (qac @jfp @jlm))
  obtain ⟨ho, hb, hl⟩ := hG
  have hob : ∀ a ∈ o ++ [b], 0 ≤ a ∧ a < 256 := fun a ha => by
    rw [qai, List.mem_singleton] at ha
    rcases ha with q | rfl
    · exact ho a q
    · exact hb
  have h0 : (Utf.rfeed0 b).1.length ≤ 1 := by
    unfold Utf.rfeed0
    repeat' split
    all_goals simp
  repeat' first | refine tU ?_ | refine qab [] [0, 1, 2, 3, 4, 5, 6, 7, 8, 9] rfl ?_ | refine qac ?_ ?_ | (refine tI ?_; intro hyp) | intro hyp0 | exact tZ | omega
  all_goals first
    | exact (hob _ hyp).1
    | exact (hob _ hyp).2
    | (simp_all [Utf.rfeed]; done)
    | (have : ¬ o.length = 0 := by omega
       simp_all [Utf.rfeed]))
abbrev q_r7valid (b:List Int):QA:=([.vec (.int .u8) b],(∀a∈b,Utf.Byte a)∧b.length≤4611686018427387904,.ret (.bool (Utf.vB b)))
def sp_r7valid:=spQ (u1 q_r7valid)
theorem jln:W1 (hA sp_r7valid) q_r7valid:=w1 (aA rfl)
theorem jp9:Al 38 sp_r7valid:=ofA (u1 q_r7valid) fun b hG=>tfi (.f [.sl (.int .u8)] jcS je3 .nil) 0 jiO (by
 dsimp only[u1,q_r7valid]at hG ⊢
 have zc:=Hk.mk (@jcD)
 obtain⟨hb,hl⟩:=hG
 repeat' first|refine tU ?_|refine qab [] [] rfl ?_|refine qac ?_ ?_|(refine tI ?_;intro hyp)|intro hyp0|exact tZ|omega
 refine T.loop (fun at_:Nat=>⟨[(0,.vec (.int .u8) b),(3,.int .i64 at_)],[]⟩) (fun at_=>at_≤b.length∧Utf.vB b=Utf.vB (b.drop at_)) (fun at_=>b.length-at_) 0 ⟨by omega,rfl⟩ (qab [] [] rfl (by exact tG)) (fun at_ ⟨ha,he⟩=>?_)
 have hsl:Utf.step (b.drop at_)≤b.length-at_:=by
  have:=(Utf.wk_le (b.drop at_) 4).2
  rw[List.length_drop]at this
  exact this
 repeat' first|refine T.cut (a:=z9_10) (fun _:Unit=>⟨[(0,.vec (.int .u8) b),(3,.int .i64 at_),(4,.int .i64 (Utf.step (b.drop at_)))],[]⟩) (fun _=>True) ?_ (fun _ _=>?_)|refine tU ?_|refine qab [] [] rfl ?_|refine qac ?_ ?_|(refine tI ?_;intro hyp)|intro hyp0|exact tZ|omega
 ·refine T.loop (fun x:Nat×Nat=>⟨[(0,.vec (.int .u8) b),(3,.int .i64 at_),(4,.int .i64 x.2),(5,.int .i64 x.1)],[]⟩) (fun x=>1≤x.1∧x.1≤5∧x.2=Utf.wk (b.drop at_) (x.1-1)) (fun x=>5-x.1) (1,0) ⟨by simp,by simp,rfl⟩ (qab [] [] rfl (by exact tG)) (fun⟨k,n⟩ ⟨h1,h2,h3⟩=>?_)
  dsimp only at h1 h2 h3 ⊢
  have hmem:∀a∈(b.drop at_).take k,Utf.Byte a:=fun a ha=>hb a (List.mem_of_mem_drop (List.mem_of_mem_take ha))
  repeat' first|refine tU ?_|refine qab [] [] rfl ?_|refine qac ?_ ?_|(refine tI ?_;intro hyp)|intro hyp0|exact tZ|omega
  ·exact (hmem _ hyp).1
  ·exact (hmem _ hyp).2
  ·refine⟨(k+1,k),⟨by simp,by simp only;omega,?_⟩,by simp only;omega,(qab [] [] rfl (by exact tG))⟩
   match k,h1,hyp with
   | k+1,_,hyp =>
    simp only[Nat.add_sub_cancel]
    rw[Utf.wk,if_pos ⟨by simp;omega,hyp⟩]
  ·refine⟨(k+1,n),⟨by simp,by simp only;omega,?_⟩,by simp only;omega,(qab [] [] rfl (by exact tG))⟩
   match k,h1,hyp,h3 with
   | k+1,_,hyp,h3 =>
    simp only[Nat.add_sub_cancel]at h3 ⊢
    rw[h3]
    conv=>rhs;rw[Utf.wk]
    rw[if_neg (fun q=>by rw[hyp]at q;exact absurd q.2 (by simp))]
  ·have e:n=Utf.step (b.drop at_):=by
    rw[h3,Utf.step]
    rcases hyp with q|q
    ·obtain rfl:k=5:=by omega
     rfl
    ·exact (jrU _ 4 (k-1) (by simp;omega) (by omega)).symm
   exact⟨(),by rw[e];exact (qab [] [] rfl (by exact tG))⟩
 ·rw[he,Utf.vB_stop _ (fun e=>by have:=congrArg qal e;simp at this;omega) (by omega)]
 ·refine⟨at_+Utf.step (b.drop at_),⟨by omega,?_⟩,by omega,(qab [] [] rfl (by exact tG))⟩
  rw[he,Utf.vB_go _ (by omega),List.drop_drop]
 ·have e:b.drop at_=[]:=List.drop_eq_nil_of_le (by omega)
  rw[he,e]
  rfl)
theorem jqa:Fre 38 sp_r7valid:=ofF (u1 q_r7valid) jp9 fun _=>rfl
end
end
end Go.Proofs.YtienkkicehmchaaGreatDoor

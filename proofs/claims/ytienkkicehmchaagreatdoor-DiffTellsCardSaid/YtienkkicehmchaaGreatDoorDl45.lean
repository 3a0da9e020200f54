/- Texts of this claim, merged by a program of this claim: KLaw19, FLawU, RnD. -/
import Derived.Test.YtienkkicehmchaaGreatDoorDl19
import Derived.Test.YtienkkicehmchaaGreatDoorDl34
import Derived.Test.YtienkkicehmchaaGreatDoorDl43
import Derived.Test.YtienkkicehmchaaGreatDoorDl44
import Derived.Test.YtienkkicehmchaaGreatDoorDl5
import Derived.Test.YtienkkicehmchaaGreatDoorDl6
namespace Go.Proofs.YtienkkicehmchaaGreatDoor
open And renaming intro→qaa
noncomputable section
set_option linter.unusedVariables false
set_option linter.unusedSimpArgs false
section
open Go.RowKit
set_option maxRecDepth 100000
def z119_0:LC:=.seq (.stm [2] [kF 3 1 2,kL 4 1 3,sd 5 (.len false 4),sd 6 (.cmp .gtr 5 (ki 3000)),kM 7 6,.g 7 false [kF 8 1 7,kL 9 1 8,sd 10 (.len true 9),sd 11 (.cmp .gtr 10 (ki 1000))] 12 kt 11,kM 13 12,.g 13 false [kF 14 1 8,kL 15 1 14,sd 16 (.len false 15),sd 17 (.cmp .gtr 16 (ki 1000))] 18 kt 17,kM 2 18]) .ret
def z119:LC:=.seq (.stm [1] [sd 1 (.box 0),kM 2 kf]) z119_0
theorem jjO:jad Tryz.prog eqs0 8 z119 [.t 2] 19=true:=by kernel_rfl
def z120_5:LC:=.seq (.stm [0] [kM 35 4,sd 36 (.eq 35 (ki 0)),kM 37 36,.b 37 true [kM 38 3,sd 39 (.bslice (.int .u8) [(k8 2),(k8 1),(k8 0),(k8 0),(k8 0),(k8 0)]),sd 40 (.call 14 [38,39])] 41 40 kf,kM 42 41,.g 42 true [kM 43 6,sd 44 (.eq 43 (ki 1))] 45 44 kf,kM 46 45,.g 46 true [kM 47 8,sd 48 (.eq 47 (ki 0))] 49 48 kf,kM 50 49,.g 50 true [kM 51 7,sd 52 (.len false 51),sd 53 (.eq 52 (ki 0))] 54 53 kf,kM 55 54,.g 55 true [sd 56 (.load true 9 1),sd 57 (.call 15 [(ki 2),56])] 58 57 kf,kM 0 58]) .ret
def z120_4:LC:=.seq (.stm [1,3,4,6,7,8] [sd 30 (.load true 9 1),sd 31 (.load true 9 1),sd 32 (.call 10 [(ki 3),30,31]),kM 29 32,sd 33 (.ext 29 0),sd 34 (.ext 29 1),kM 7 33,kM 8 34]) z120_5
def z120_3:LC:=.seq (.stm [1,3,4,6] [sd 24 (.load true 9 1),sd 25 (.load true 9 1),sd 26 (.call 10 [(ki 4),24,25]),kM 23 26,sd 27 (.ext 23 0),sd 28 (.ext 23 1),kM 5 27,kM 6 28]) z120_4
def z120_2:LC:=.seq (.stm [1,3,4] [sd 18 (.load true 9 1),sd 19 (.load true 9 1),sd 20 (.call 10 [(ki 1),18,19]),kM 17 20,sd 21 (.ext 17 0),sd 22 (.ext 17 1),kM 3 21,kM 4 22]) z120_3
def z120_1:LC:=.seq (.stm [1] [kF 13 1 2,kL 14 1 13,sd 15 (.ixS 6 14 (ki 0)),kF 16 15 0,sn (.store 1 16 (.c (.int .i32 97)))]) z120_2
def z120_0:LC:=.seq (.stm [1] [sd 10 (.call 23 [(ki 2),(ki 1)]),kM 9 10,sd 11 (.ext 9 0),sd 12 (.ext 9 1),sd 1 (.zero [.int .i64 0,.int .i64 0,.nils,.int .i64 0,.int .i64 0,.bool false,.int .u8 0,.str (bs []),.nils]),sn (.store 9 1 11),kM 2 12]) z120_1
def z120:LC:=.seq (.stm [] [kM 0 kf]) z120_0
theorem jjP:jad Tryz.prog eqs0 9 z120 [.t 0] 59=true:=by kernel_rfl
end
section
open Go.RowKit
set_option maxRecDepth 100000
set_option maxHeartbeats 8000000
abbrev jtD:List AK:=[.agg [.any,.any,.sl .cell,.any,.any,.any,.any,.any,.sl .str]]
abbrev q_great9 (k r:Int) (L:List CD) (x y:Int) (hd:Bool) (mo:Int) (ti:ByteArray) (l:List ByteArray):QA:=([.agg [.int .i64 k,.int .i64 r,.vec .cell L,.int .i64 x,.int .i64 y,.bool hd,.int .u8 mo,.str ti,.vec .str l]],True,.ret (.bool (decide (3000<(L.length:Int)) || decide (1000<(ti.size:Int)) || decide (1000<(l.length:Int)))))
def sp_great9:=spQ (u9 q_great9)
theorem jng:W9 (hA sp_great9) q_great9:=w9 (aA rfl)
theorem jtE:Al 8 sp_great9:=ofA (u9 q_great9) fun⟨k,r,L,x,y,hd,mo,ti,l⟩ hG=>tfi .nil 0 jjO (by
 dsimp only[u9,q_great9]at hG ⊢
 repeat' first|refine tU ?_|refine Cos.intro [] [] rfl ?_|refine qaa ?_ ?_|(refine tI ?_;intro hyp)|intro hyp0|exact tZ|omega)
theorem jtF:Fre 8 sp_great9:=ofF (u9 q_great9) jtE fun _=>rfl
theorem jyA:jbj (encV 1 2 1 [⟨97,0,0,0,0,0⟩,blank0] 0 0 false 0 (bs []) [] 2 1 [⟨97,0,0,0,0,0⟩,blank0] 0 0 false 0 (bs []) []) (jbp 1 2 1 [⟨97,0,0,0,0,0⟩,blank0] 0 0 false 0 (bs []) [])=[2,1,0,0,0,0]:=by decide +kernel
theorem jyB:(jbj (encV 3 2 1 [⟨97,0,0,0,0,0⟩,blank0] 0 0 false 0 (bs []) [] 2 1 [⟨97,0,0,0,0,0⟩,blank0] 0 0 false 0 (bs []) []) (jbp 3 2 1 [⟨97,0,0,0,0,0⟩,blank0] 0 0 false 0 (bs []) []))=[]:=by decide +kernel
theorem jyC:jay 1 2 1 [⟨97,0,0,0,0,0⟩,blank0] 0 0 0 (bs []) []=true:=by decide +kernel
theorem jyD:jay 2 2 1 [⟨97,0,0,0,0,0⟩,blank0] 0 0 0 (bs []) []=true:=by decide +kernel
theorem jyE:jay 3 2 1 [⟨97,0,0,0,0,0⟩,blank0] 0 0 0 (bs []) []=true:=by decide +kernel
theorem jyF:jay 4 2 1 [⟨97,0,0,0,0,0⟩,blank0] 0 0 0 (bs []) []=false:=by decide +kernel
theorem jyh:ScrOk [⟨97,0,0,0,0,0⟩,blank0] []:=by
 refine⟨fun c hc=>?_,by decide,by decide,fun s hs=>(by cases hs)⟩
 rcases List.mem_cons.1 hc with rfl|hc
 ·constructor<;>decide
 rcases List.mem_cons.1 hc with rfl|hc
 ·constructor<;>decide
 cases hc
theorem jyi:[(2:Int),1,0,0,0,0].length≤4611686018427387904:=by decide
abbrev q_fixedU:QA:=([],True,.ret (.bool true))
def sp_fixedU:=spQ (u0 q_fixedU)
theorem jnh:W0 (hA sp_fixedU) q_fixedU:=w0 (aA rfl (fun _ _ _=>rfl))
theorem jtG:Al 9 sp_fixedU:=ofA (u0 q_fixedU) fun _ hG=>tfi (.t [.any,.any] jc0 jfb (.a jpE jfY jpF (.f jph jfS jpi (.f jpb jg8 jpc .nil)))) 0 jjP (by
 dsimp only[u0,q_fixedU]at hG ⊢
 have zc:=Hk.mk (qaa @jcL (qaa @jjL (qaa @jjv @ji9)))
 have hw:=qaa jyA (qaa jyB (qaa jyC (qaa jyD (qaa jyE (qaa jyF (qaa (show errN true=0 from rfl) (show errN false=1 from rfl)))))))
 repeat' first|exact jyh|exact jyi|decide|refine T.cut (b:=z120_2) (fun _:Unit=>⟨[(1,.ptr 0 0 0)],[.box [.int .i64 2,.int .i64 1,.vec .cell ([⟨97,0,0,0,0,0⟩,blank0]:List CD),.int .i64 0,.int .i64 0,.bool false,.int .u8 0,.str (bs []),.vec .str []]]⟩) (fun _=>True) (Held.out ?_) (fun _ _=>Held.out ?_)|refine tU ?_|refine qaa ?_ ?_|(refine tI ?_;intro hyp)|intro hyp0|exact tZ|omega
 ·refine⟨?_⟩
  repeat' first|refine tU ?_|refine qaa ?_ ?_|(refine tI ?_;intro hyp)|intro hyp0|exact tZ|omega
  exact⟨(),Cos.intro [2] [0,1] rfl (by exact tF)⟩
 ·refine⟨?_⟩
  repeat' first|exact jyh|exact jyi|decide|refine tU ?_|refine Cos.intro [] [] rfl ?_|refine qaa ?_ ?_|(refine tI ?_;intro hyp)|intro hyp0|exact tZ|omega
  all_goals trace_state)
theorem jtH:Fre 9 sp_fixedU:=ofF (u0 q_fixedU) jtG fun _=>rfl
end
section
def stB (oth:Nat→Bool) (W:List CD) (i:Nat):Bool:=oth i && !(decide (0<i)&&oth (i-1)&&decide ((cAt W (i-1)).pen=(cAt W i).pen))
def bgN (oth:Nat→Bool) (W:List CD) (t:Nat):List Nat:=(List.range t).filter (stB oth W)
section
variable {W:List CD}{oth:Nat→Bool}
theorem jfZ (t:Nat):bgN oth W (t+1)=bgN oth W t++if stB oth W t then [t] else []:=by
 unfold bgN
 rw[List.range_succ,List.filter_append]
 congr 1
 unfold List.filter
 cases stB oth W t<;>rfl
theorem jvP (t:Nat):(bgN oth W t).length≤t:=by
 unfold bgN
 have:=List.length_filter_le (stB oth W) (List.range t)
 rwa [List.length_range]at this
theorem jxw (t s:Nat):∃l,bgN oth W (t+s)=bgN oth W t++l:=by
 induction s with
 | zero=>exact⟨[],by simp⟩
 | succ s ih =>
  obtain⟨l,hl⟩:=ih
  exact⟨l++if stB oth W (t+s) then [t+s] else [],by rw[←Nat.add_assoc,jfZ,hl,List.append_assoc]⟩
theorem jyj {t n:Nat}(hs:stB oth W t=true) (h:t<n):(bgN oth W n).getD (bgN oth W t).length 0=t∧(bgN oth W t).length<(bgN oth W n).length:=by
 obtain⟨l,hl⟩:=jxw (oth:=oth) (W:=W) (t+1) (n-(t+1))
 rw[show t+1+(n-(t+1))=n by omega,jfZ,if_pos hs]at hl
 rw[hl]
 simp
def Pre (oth:Nat→Bool) (W:List CD) (i:Nat):Prop:=oth i=true→stB oth W i=true
theorem jpG:Pre oth W 0:=fun h=>by simp[stB,h]
theorem jpH {i:Nat}(h:oth i=false):Pre oth W (i+1):=fun h1=>by simp[stB,h,h1]
theorem jxx {p j:Nat}(h1:p<j) (hp:(cAt W (j-1)).pen=(cAt W p).pen) (hs:¬(oth j=true∧(cAt W j).pen=(cAt W p).pen)):Pre oth W j:=fun h=>by
 have:¬(cAt W (j-1)).pen=(cAt W j).pen:=fun e=>hs ⟨h,by rw[←e,hp]⟩
 simp[stB,h,this]
theorem jtI (hT:All2 W):∀(m i bh nn:Nat) (bs:List Int),W.length-i≤m→(i<W.length→Pre oth W i)→Out3 W oth i bh nn bs→(bgN oth W i).length<(bgN oth W W.length).length →
  ∃p,(bgN oth W W.length).getD (bgN oth W i).length 0=p∧p<W.length∧stB oth W p=true∧(bgN oth W p).length=(bgN oth W i).length∧Out3 W oth p bh nn bs
 | 0,i,bh,nn,bs,hm,hp,ho,hl=>by
  have:=ho.le
  obtain rfl:i=W.length:=by omega
  omega
 | m+1,i,bh,nn,bs,hm,hp,ho,hl=>by
  have hle:=ho.le
  rcases Nat.lt_or_ge i W.length with h|h
  ·by_cases hs:stB oth W i=true
   ·exact⟨i,(jyj hs h).1,h,hs,rfl,ho⟩
   ·have hoi:oth i=false:=by
     cases q:oth i
     ·rfl
     ·exact absurd (hp h q) hs
    have e:bgN oth W (i+1)=bgN oth W i:=by rw[jfZ,if_neg hs,List.append_nil]
    have hsk:=ho.skip h hoi (by rw[hT.one h];omega)
    rw[hT.one h]at hsk
    obtain⟨p,h1,h2,h3,h4,h5⟩:=jtI hT m (i+1) bh nn bs (by omega) (fun _=>jpH hoi) hsk (by rw[e];exact hl)
    rw[e]at h1 h4
    exact⟨p,h1,h2,h3,h4,h5⟩
  ·obtain rfl:i=W.length:=by omega
   omega
theorem jow (hT:All2 W):∀(m i bh nn:Nat) (bs:List Int),W.length-i≤m→(i<W.length→Pre oth W i)→Out3 W oth i bh nn bs→(bgN oth W W.length).length≤(bgN oth W i).length→Out3 W oth W.length bh nn bs
 | 0,i,bh,nn,bs,hm,hp,ho,hl=>by
  have:=ho.le
  obtain rfl:i=W.length:=by omega
  exact ho
 | m+1,i,bh,nn,bs,hm,hp,ho,hl=>by
  have hle:=ho.le
  rcases Nat.lt_or_ge i W.length with h|h
  ·by_cases hs:stB oth W i=true
   ·have:=(jyj hs h).2
    omega
   ·have hoi:oth i=false:=by
     cases q:oth i
     ·rfl
     ·exact absurd (hp h q) hs
    have e:bgN oth W (i+1)=bgN oth W i:=by rw[jfZ,if_neg hs,List.append_nil]
    have hsk:=ho.skip h hoi (by rw[hT.one h];omega)
    rw[hT.one h]at hsk
    exact jow hT m (i+1) bh nn bs (by omega) (fun _=>jpH hoi) hsk (by rw[e];exact hl)
  ·obtain rfl:i=W.length:=by omega
   exact ho
theorem jvQ {p:Nat}(hp:stB oth W p=true):∀n,(∀t,p≤t→t≤p+n→oth t=true∧(cAt W t).pen=(cAt W p).pen)→(bgN oth W (p+n+1)).length=(bgN oth W p).length+1
 | 0,_=>by rw[Nat.add_zero,jfZ,if_pos hp];simp
 | n+1,h=>by
  have h1:=h (p+n) (by omega) (by omega)
  have h2:=h (p+(n+1)) (by omega) (by omega)
  have ih:=jvQ hp n fun t a b=>h t a (by omega)
  rw[jfZ,if_neg,List.append_nil]
  ·exact ih
  ·simp only[stB,show p+(n+1)-1=p+n by omega,h1.1,h1.2,h2.1,h2.2,decide_true,Bool.and_true,Bool.true_and]
   rw[decide_eq_true (by omega)]
   decide
end
end
end
end Go.Proofs.YtienkkicehmchaaGreatDoor

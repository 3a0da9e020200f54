/- Texts of this claim, merged by a program of this claim: ThereM2. -/
import Derived.Test.YtienkkicehmchaaGreatDoorDo24
namespace Go.Proofs.YtienkkicehmchaaGreatDoor
open Int renaming toNat_natCast→qaa,toNat_of_nonneg→qab
set_option linter.unusedVariables false
set_option linter.unusedSimpArgs false
section
theorem RFact.tell {k r:Nat}{L:List CD}{x y mo:Nat}{ti:ByteArray}{l:List ByteArray}(h:RFact k r L x y mo ti l) (hw:∀c∈L,CWf c):Tell L k l.length:=by
 have row:∀y x,y<r→x<k→mayB (cAt L (y*k+x))=true∧(0<x→(cAt L (y*k+(x-1))).wide=1→(cAt L (y*k+(x-1))).pen=(cAt L (y*k+x)).pen):=fun y x hy hx=>by
  have hb:=h.row y hy
  unfold jcl at hb
  simp only[Bool.and_eq_true,List.all_eq_true,List.mem_range]at hb
  have:=(jcE _ _).1 (hb.1.2 x (by rw[jbd h.len hy];exact hx))
  rw[jgI hx,jgI (show x-1<k by omega)]at this
  exact⟨this.1,this.2.2⟩
 have hkr:k*r≤80*24:=Nat.mul_le_mul h.k1.2 h.r1.2
 refine⟨h.whole,fun i hi=>?_,fun i hi hwd=>?_,fun i hi hwd=>?_,h.k1.1,hw,h.lk,by rw[h.len];omega⟩
 ·obtain⟨y,x,rfl,hy,hx⟩:=jeS (k:=k) (r:=r) (by rw[←h.len];exact hi)
  exact (row y x hy hx).1
 ·obtain⟨y,x,rfl,hy,hx⟩:=jeS (k:=k) (r:=r) (by rw[←h.len];exact hi)
  have h1:=h.fit y x hy hx hwd
  have:=(row y (x+1) hy h1).2 (by omega) (by rw[Nat.add_sub_cancel];exact hwd)
  rw[Nat.add_sub_cancel]at this
  exact this.symm
 ·obtain⟨y,x,rfl,hy,hx⟩:=jeS (k:=k) (r:=r) (by rw[←h.len];exact hi)
  have h1:=h.fit y x hy hx hwd
  rw[Nat.mul_comm,Nat.mul_add_mod,Nat.mod_eq_of_lt hx]
  omega
section
variable {d R:List Int}{s:RS}{f:Nat}{last:Int}
theorem kd2_ {k r x1 y1 x2 y2:Nat}{hd1 hd2:Bool}(hk:s.k=k) (hr:s.r=r) (hx:s.x=x1) (hy:s.y=y1) (hh:s.hd=hd1) (h1:x2<k) (h2:y2<r) (h3:k≤80) (h4:r≤24) :
  (curB x1 y1 hd1 x2 y2 hd2=[]∧({ s with x:=x2,y:=y2,hd:=hd2 }:RS).at_ s.a=s)∨∃body,curB x1 y1 hd1 x2 y2 hd2=2::body∧∀a,d.drop a=body++R→∃a',thG d 2 (s.at_ a)=(0,({ s with x:=x2,y:=y2,hd:=hd2 }:RS).at_ a')∧d.drop a'=R:=by
 unfold curB
 split
 ·rename_i q
  refine .inr ⟨_,rfl,fun a ha=>?_⟩
  have d0:d.drop a=varN x2++(varN y2++(varN (if hd2 then 1 else 0)++R)):=by rw[ha];simp[jar]
  obtain⟨_,a2,d1⟩:=jaZ d0 (by omega)
  have b1:=jeZ (most:=s.k-1) d0 (by omega) (by omega)
  obtain⟨_,a4,d2⟩:=jaZ d1 (by omega)
  have b2:=jeZ (most:=s.r-1) d1 (by omega) (by omega)
  have hb:(if hd2 then 1 else 0)≤1:=by cases hd2<;>decide
  obtain⟨_,a6,d3⟩:=jaZ d2 (by omega)
  have b3:=jeZ (most:=1) d2 (by omega) (by omega)
  refine⟨_,?_,d3⟩
  have e:decide (((if hd2 then 1 else 0:Nat):Int)=1)=hd2:=by cases hd2<;>rfl
  simp only[thG,RS.at_,th2,if_neg (show ¬(2:Int)=1 by omega),if_true]
  rw[if_neg (by simp[b1]),if_neg (by simp[b2]),if_neg (by simp[b3]),a2,a4,a6,e]
 ·rename_i q
  unfold curC at q
  simp only[Bool.or_eq_true,bne_iff_ne,ne_eq,not_or,Classical.not_not]at q
  refine .inl ⟨rfl,?_⟩
  obtain⟨q1,q2,q3⟩:=q
  cases s
  simp only[RS.at_,RS.mk.injEq,true_and,and_true]at *
  exact⟨q1.trans hx.symm,q2.trans hy.symm,q3.trans hh.symm⟩
theorem seg2 {k r x1 y1 x2 y2:Nat}{hd1 hd2:Bool}(hf:1≤f) (hl:last<2) (hk:s.k=k) (hr:s.r=r) (hx:s.x=x1) (hy:s.y=y1) (hh:s.hd=hd1) (h1:x2<k) (h2:y2<r) (h3:k≤80) (h4:r≤24)
  (hd:d.drop s.a=curB x1 y1 hd1 x2 y2 hd2++R) :
  ∃f' last' a',f≤f'+1∧last'≤2∧goG d f last s=goG d f' last' (({ s with x:=x2,y:=y2,hd:=hd2 }:RS).at_ a')∧d.drop a'=R:=jiJ hf hd hl (by omega) (kd2_ hk hr hx hy hh h1 h2 h3 h4)
theorem kd3_ {t1 t2:ByteArray}(ht:s.ti=t1) (h1:t2.size≤64) :
  (titB t1 t2=[]∧({ s with ti:=t2 }:RS).at_ s.a=s)∨∃body,titB t1 t2=3::body∧∀a,d.drop a=body++R→∃a',thG d 3 (s.at_ a)=(0,({ s with ti:=t2 }:RS).at_ a')∧d.drop a'=R:=by
 unfold titB
 split
 ·rename_i q
  refine .inl ⟨rfl,?_⟩
  have:=ja9.1 q
  cases s
  simp only[RS.at_,RS.mk.injEq,true_and,and_true]at *
  exact this.trans ht.symm
 ·refine .inr ⟨_,rfl,fun a ha=>?_⟩
  obtain⟨e1,e2,e3⟩:=ju3 ha (by rw[jay];exact h1)
  refine⟨_,?_,e3⟩
  simp only[thG,RS.at_,th3,if_neg (show ¬(3:Int)=1 by omega),if_neg (show ¬(3:Int)=2 by omega),if_true]
  rw[if_neg (by simp[e1]),e2,ji5]
theorem seg3 {t1 t2:ByteArray}(hf:1≤f) (hl:last<3) (ht:s.ti=t1) (h1:t2.size≤64) (hd:d.drop s.a=titB t1 t2++R) :
  ∃f' last' a',f≤f'+1∧last'≤3∧goG d f last s=goG d f' last' (({ s with ti:=t2 }:RS).at_ a')∧d.drop a'=R:=jiJ hf hd hl (by omega) (kd3_ ht h1)
theorem kd4_ {m1 m2:Nat}(hm:s.mo=m1) (h1:m2≤2) :
  (mouB m1 m2=[]∧({ s with mo:=m2 }:RS).at_ s.a=s)∨∃body,mouB m1 m2=4::body∧∀a,d.drop a=body++R→∃a',thG d 4 (s.at_ a)=(0,({ s with mo:=m2 }:RS).at_ a')∧d.drop a'=R:=by
 unfold mouB
 split
 ·rename_i q
  refine .inl ⟨rfl,?_⟩
  cases s
  simp only[RS.at_,RS.mk.injEq,true_and,and_true]at *
  omega
 ·refine .inr ⟨_,rfl,fun a ha=>?_⟩
  have d0:d.drop a=varN m2++R:=by rw[ha];simp[jar]
  obtain⟨_,a2,d1⟩:=jaZ d0 (by omega)
  have b1:=jeZ (most:=2) d0 (by omega) (by omega)
  refine⟨_,?_,d1⟩
  simp only[thG,RS.at_,th4,if_neg (show ¬(4:Int)=1 by omega),if_neg (show ¬(4:Int)=2 by omega),if_neg (show ¬(4:Int)=3 by omega),if_true]
  rw[if_neg (by simp[b1]),a2]
theorem seg4 {m1 m2:Nat}(hf:1≤f) (hl:last<4) (hm:s.mo=m1) (h1:m2≤2) (hd:d.drop s.a=mouB m1 m2++R) :
  ∃f' last' a',f≤f'+1∧last'≤4∧goG d f last s=goG d f' last' (({ s with mo:=m2 }:RS).at_ a')∧d.drop a'=R:=jiJ hf hd hl (by omega) (kd4_ hm h1)
theorem seg5 {L1:List CD}{l1 l2:List ByteArray}(hf:1≤f) (hl:last<5) (hL:s.L=L1) (hl1:s.l=l1) (hmo:s.more=l1) (h1:jbu L1 l1=true) (h2:∀t∈l2,jca t=true) (h3:l2.length≤16) (h16:l1.length≤16) (hd:d.drop s.a=linB l1 l2++R) :
  ∃f' last' a',f≤f'+1∧last'≤5∧goG d f last s=goG d f' last' (({ s with L:=undL L1 l1 l2,more:=l2 }:RS).at_ a')∧d.drop a'=R:=by
 refine jiJ (s':={ s with L:=undL L1 l1 l2,more:=l2 }) hf hd hl (by omega) ?_
 unfold linB
 split
 ·rename_i q
  refine .inl ⟨rfl,?_⟩
  subst q
  rw[jA2 h1]
  cases s
  simp only[RS.at_,RS.mk.injEq,true_and,and_true]at *
  exact⟨hL.symm,hmo.symm⟩
 ·refine .inr ⟨_,rfl,fun a ha=>?_⟩
  have hc:=jmB l2 l1
  have d0:d.drop a=varN (comK l2 l1)++(varN (l2.length-comK l2 l1)++(texB (l2.drop (comK l2 l1))++R)):=by rw[ha];simp[jar]
  obtain⟨_,a2,d1⟩:=jaZ d0 (by omega)
  have b1:=jeZ (most:=(l1.length:Int)) d0 (by omega) (by omega)
  obtain⟨_,a4,d2⟩:=jaZ d1 (by omega)
  have b2:=jeZ (most:=16-varV d a) d1 (by omega) (by omega)
  obtain⟨a',e1,e2⟩:=jqO (l2.drop (comK l2 l1)) _ (l1.take (comK l2 l1)) d2 (fun t ht=>h2 t (List.mem_of_mem_drop ht))
  rw[jom,List.length_drop]at e1
  refine⟨a',?_,e2⟩
  have hg:lkG d a l1=(0,a',l2):=by
   unfold lkG
   rw[if_neg (by simp[b1]),if_neg (by simp[b2]),a4,a2,qaa,qaa]
   exact e1
  simp only[thG,RS.at_,th5,if_neg (show ¬(5:Int)=1 by omega),if_neg (show ¬(5:Int)=2 by omega),if_neg (show ¬(5:Int)=3 by omega),if_neg (show ¬(5:Int)=4 by omega),if_true]
  rw[hl1,hg,hL]
  rfl
theorem ju5 {n:Int}{r:Nat}(h0:n≠0) (h1:-(r:Int)<n) (h2:n<r):jki (scrN n)=n∧(scrN n:Int)≤2*r-2∧scrN n≠0:=by
 unfold jki scrN
 split
 ·rw[qab (by omega),if_neg (by omega)]
  omega
 ·rw[qab (by omega),if_pos (by omega)]
  omega
theorem seg6 {k r:Nat}{U:List CD}{n:Int}(hf:1≤f) (hl:last<6) (hk:s.k=k) (hr:s.r=r) (hL:s.L=U) (hU:U.length=k*r) (h1:-(r:Int)<n) (h2:n<r) (h3:r≤24) (hd:d.drop s.a=scrB n++R) :
  ∃f' last' a',f≤f'+1∧last'≤6∧goG d f last s=goG d f' last' (({ s with L:=movL k r U n }:RS).at_ a')∧d.drop a'=R:=by
 refine jiJ (s':={ s with L:=movL k r U n }) hf hd hl (by omega) ?_
 unfold scrB
 split
 ·rename_i q
  refine .inl ⟨rfl,?_⟩
  subst q
  rw[jj5 hU]
  cases s
  simp only[RS.at_,RS.mk.injEq,true_and,and_true]at *
  exact hL.symm
 ·rename_i q
  refine .inr ⟨_,rfl,fun a ha=>?_⟩
  obtain⟨g1,g2,g3⟩:=ju5 q h1 h2
  have d0:d.drop a=varN (scrN n)++R:=by rw[ha];simp[jar]
  obtain⟨_,a2,d1⟩:=jaZ d0 (by omega)
  have b1:=jeZ (most:=2*s.r-2) d0 (by omega) (by omega)
  refine⟨_,?_,d1⟩
  simp only[thG,RS.at_,th6,if_neg (show ¬(6:Int)=1 by omega),if_neg (show ¬(6:Int)=2 by omega),if_neg (show ¬(6:Int)=3 by omega),if_neg (show ¬(6:Int)=4 by omega),if_neg (show ¬(6:Int)=5 by omega),if_true]
  rw[if_neg (by simp[b1]),a2,if_neg (by omega),g1,hk,hr,hL]
  rfl
theorem seg7 {k r:Nat}{V L2:List CD}(hf:1≤f) (hl:last<7) (hk:s.k=k) (hr:s.r=r) (hL:s.L=V) (hV:V.length=k*r) (h2:L2.length=k*r) (h3:r≤24) (hd:d.drop s.a=jj2 (jak (jat V k r) (jat L2 k r) r).1++R) :
  ∃f' last' a',f≤f'+1∧last'≤7∧goG d f last s=goG d f' last' (({ s with L:=cpyL k r V L2 }:RS).at_ a')∧d.drop a'=R:=by
 have hA:=ja1 hV
 have hB:=ja1 h2
 have hc:cpyL k r V L2=jbB (jat V k r) (jat L2 k r) r:=(jsj hA).symm
 refine jiJ (s':={ s with L:=cpyL k r V L2 }) hf hd hl (by omega) ?_
 unfold jj2
 split
 ·rename_i q
  refine .inl ⟨rfl,?_⟩
  rw[hc,jgR r (by rw[hA.len];exact Nat.le_refl _) q,jem hV]
  cases s
  simp only[RS.at_,RS.mk.injEq,true_and,and_true]at *
  exact hL.symm
 ·rename_i q
  refine .inr ⟨_,rfl,fun a ha=>?_⟩
  have hfa:=jcG (jat V k r) (jat L2 k r) r
  have hev:=jeQ (jat V k r) (jat L2 k r) r
  have hpos:1≤(jak (jat V k r) (jat L2 k r) r).1.length:=by
   rcases e:(jak (jat V k r) (jat L2 k r) r).1 with _|⟨x,l⟩
   ·exact absurd e q
   ·simp
  have d0:d.drop a=varN ((jak (jat V k r) (jat L2 k r) r).1.length / 2)++(jar (jak (jat V k r) (jat L2 k r) r).1++R):=by rw[ha,List.append_assoc]
  obtain⟨a1,a2,d1⟩:=jaZ d0 (by omega)
  obtain⟨a',e1,e2⟩:=jmW hA hB (jem hV) h3 (fun z hz=>(jcz hz).symm) r (Nat.le_refl _) 0 _ R d1
  refine⟨a',?_,e1⟩
  have hg:cpsG d a k r V=(0,a',cpyL k r V L2):=by
   have hs:jc2 d a=0:=by
    unfold jc2
    rw[if_neg (by simp[a1]),a2,if_neg (by omega)]
   unfold cpsG
   rw[if_neg (by simp[hs]),a2,qaa,hc]
   exact e2
  simp only[thG,RS.at_,th7,if_neg (show ¬(7:Int)=1 by omega),if_neg (show ¬(7:Int)=2 by omega),if_neg (show ¬(7:Int)=3 by omega),if_neg (show ¬(7:Int)=4 by omega),if_neg (show ¬(7:Int)=5 by omega),if_neg (show ¬(7:Int)=6 by omega),if_true]
  rw[hk,hr,hL,qaa,qaa,hg]
  rfl
theorem seg8 {k nl:Nat}{C W:List CD}(hf:1≤f) (hl:last<8) (hk:s.k=k) (hnl:s.more.length=nl) (h16:nl≤16) (hL:s.L=C) (hC:C.length=W.length) (hT:Tell W k nl) (hb:Bd W 0) (hd:d.drop s.a=jbU C W++R) :
  ∃f' last' a',f≤f'+1∧last'≤8∧goG d f last s=goG d f' last' (({ s with L:=W }:RS).at_ a')∧d.drop a'=R:=by
 refine jiJ (s':={ s with L:=W }) hf hd hl (by omega) ?_
 obtain⟨l,el⟩:∃l,l=rem (jaj C W) (jaa W) W.length 0:=⟨_,rfl⟩
 have hm0:mix C W 0=C:=by simp[mix]
 have hsm:=hT.small
 have hlen:l.length≤W.length:=by rw[el];exact jbC
 have hbytes:jbU C W=if (layR W l.length 0 l).2=0 then [] else (8:Int)::(varN (layR W l.length 0 l).2++(layR W l.length 0 l).1):=by rw[el];rfl
 rw[hbytes]
 split
 ·rename_i q
  refine .inl ⟨rfl,?_⟩
  have hn:l=[]:=by
   cases l with
   | nil=>rfl
   | cons x l' =>
    rw[List.length_cons,layR]at q
    omega
  rw[hn]at el
  have:=jkv hC _ 0 (Nat.le_refl _) el.symm
  rw[hm0]at this
  cases s
  simp only[RS.at_,RS.mk.injEq,true_and,and_true]at *
  exact this.symm.trans hL.symm
 ·rename_i q
  refine .inr ⟨_,rfl,fun a ha=>?_⟩
  have hcnt:(layR W l.length 0 l).2≤l.length:=(jhq hT.wf l.length 0 l (by omega) (fun x hx=>by rw[el]at hx;have:=(jeR (fun i=>(jao W i).1) hx).2.1;omega)).2
  have d0:d.drop a=varN (layR W l.length 0 l).2++((layR W l.length 0 l).1++R):=by rw[ha,List.append_assoc]
  obtain⟨a1,a2,d1⟩:=jaZ d0 (by omega)
  rw[el]at d1
  obtain⟨a',e1,e2⟩:=ju4 hT hC h16 (rem (jaj C W) (jaa W) W.length 0).length 0 _ R (Nat.le_refl _) hb (Nat.zero_le _) d1
  rw[←el,hm0]at e2
  refine⟨a',?_,e1⟩
  have hg:rnsG d a k nl C=(0,a',W):=by
   have hs:jc2 d a=0:=by
    unfold jc2
    rw[if_neg (by simp[a1]),a2,if_neg (by omega)]
   unfold rnsG
   rw[if_neg (by simp[hs]),a2,qaa]
   exact e2
  simp only[thG,RS.at_,th8,if_neg (show ¬(8:Int)=1 by omega),if_neg (show ¬(8:Int)=2 by omega),if_neg (show ¬(8:Int)=3 by omega),if_neg (show ¬(8:Int)=4 by omega),if_neg (show ¬(8:Int)=5 by omega),if_neg (show ¬(8:Int)=6 by omega),if_neg (show ¬(8:Int)=7 by omega)]
  rw[hk,hnl,hL,qaa,hg]
  rfl
end
theorem Whole.bd {W:List CD}(h:Whole W):Bd W 0:=fun h0 e=>by
 have:=(h.right 0 h0 e).1
 omega
theorem jlH {d:List Int}{k r:Nat}{L1 L2:List CD}{x1 y1 m1 x2 y2 m2:Nat}{hd1 hd2:Bool}{t1 t2:ByteArray}{l1 l2:List ByteArray}{f:Nat}{last:Int}{a:Nat}(hf:7≤f) (hl:last≤1)
  (h1:L1.length=k*r) (hl1:jbu L1 l1=true) (h16:l1.length≤16) (hB:RFact k r L2 x2 y2 m2 t2 l2) (hw:∀c∈L2,CWf c)
  (hd:d.drop a=jga k r L1 x1 y1 hd1 m1 t1 l1 L2 x2 y2 hd2 m2 t2 l2) :
  ∃a',goG d f last ⟨k,r,L1,x1,y1,hd1,m1,t1,l1,l1,a⟩=(0,⟨k,r,L2,x2,y2,hd2,m2,t2,l1,l2,a'⟩):=by
 have hr:=hB.r1
 have hu:=jt2 k r hr.1 (undL L1 l1 l2) L2
 have hUl:(undL L1 l1 l2).length=k*r:=by rw[jt6,h1]
 unfold jga jr0 celB at hd
 generalize hup:upN k r (undL L1 l1 l2) L2=up at hd hu
 have hMl:(movL k r (undL L1 l1 l2) up).length=k*r:=jqr hUl up
 simp only[List.append_assoc]at hd
 obtain⟨f2,la2,a2,q2,p2,g2,d2⟩:=seg2 (d:=d) (s:=⟨k,r,L1,x1,y1,hd1,m1,t1,l1,l1,a⟩) (f:=f) (last:=last) (by omega) (by omega) rfl rfl rfl rfl rfl hB.x1 hB.y1 hB.k1.2 hr.2 hd
 obtain⟨f3,la3,a3,q3,p3,g3,d3⟩:=seg3 (d:=d) (s:=⟨k,r,L1,x2,y2,hd2,m1,t1,l1,l1,a2⟩) (f:=f2) (last:=la2) (by omega) (by omega) rfl hB.ti1 d2
 obtain⟨f4,la4,a4,q4,p4,g4,d4⟩:=seg4 (d:=d) (s:=⟨k,r,L1,x2,y2,hd2,m1,t2,l1,l1,a3⟩) (f:=f3) (last:=la3) (by omega) (by omega) rfl hB.mo1 d3
 obtain⟨f5,la5,a5,q5,p5,g5,d5⟩:=seg5 (d:=d) (s:=⟨k,r,L1,x2,y2,hd2,m2,t2,l1,l1,a4⟩) (f:=f4) (last:=la4) (by omega) (by omega) rfl rfl rfl hl1 (jj6 hB.links) hB.l1 h16 d4
 obtain⟨f6,la6,a6,q6,p6,g6,d6⟩:=seg6 (d:=d) (s:=⟨k,r,undL L1 l1 l2,x2,y2,hd2,m2,t2,l1,l2,a5⟩) (f:=f5) (last:=la5) (by omega) (by omega) rfl rfl rfl hUl hu.1 hu.2 hr.2 d5
 obtain⟨f7,la7,a7,q7,p7,g7,d7⟩:=seg7 (d:=d) (s:=⟨k,r,movL k r (undL L1 l1 l2) up,x2,y2,hd2,m2,t2,l1,l2,a6⟩) (f:=f6) (last:=la6) (by omega) (by omega) rfl rfl rfl hMl hB.len hr.2 d6
 obtain⟨f8,la8,a8,q8,p8,g8,d8⟩:=seg8 (d:=d) (R:=[]) (s:=⟨k,r,cpyL k r (movL k r (undL L1 l1 l2) up) L2,x2,y2,hd2,m2,t2,l1,l2,a7⟩) (f:=f7) (last:=la7) (by omega) (by omega) rfl rfl hB.l1 rfl ((jqs hMl hB.len).trans hB.len.symm) (hB.tell hw) hB.whole.bd (by rw[List.append_nil];exact d7)
 refine⟨a8,?_⟩
 rw[g2]
 simp only[RS.at_]
 rw[g3]
 simp only[RS.at_]
 rw[g4]
 simp only[RS.at_]
 rw[g5]
 simp only[RS.at_]
 rw[g6]
 simp only[RS.at_]
 rw[g7]
 simp only[RS.at_]
 rw[g8]
 simp only[RS.at_]
 exact jA1 d8
theorem jpB (n:Nat):jbu (List.replicate n blank0) []=true:=by
 have h:∀n,jeh 0 (List.replicate n blank0)=some 0:=fun n=>by
  induction n with
  | zero=>rfl
  | succ n ih =>
   rw[List.replicate_succ',jb0,ih]
   rfl
 unfold jbu
 simp[h]
theorem jsk {d:List Int}{k r:Nat}{L2:List CD}{x2 y2 m2:Nat}{hd2:Bool}{t2:ByteArray}{l2:List ByteArray}(s:RS) (h0:s.a=0) (hB:RFact k r L2 x2 y2 m2 t2 l2) (hw:∀c∈L2,CWf c)
  (hd:d=jt8 k r L2 x2 y2 hd2 m2 t2 l2):∃a',goG d 9 0 s=(0,⟨k,r,L2,x2,y2,hd2,m2,t2,[],l2,a'⟩):=by
 have hk:=hB.k1
 have hr:=hB.r1
 have hd':d.drop s.a=((1:Int)::jar [k,r])++jga k r (jah k r) 0 0 false 0 ⟨#[]⟩ [] L2 x2 y2 hd2 m2 t2 l2:=by rw[h0,hd];rfl
 have hpos:(k:Int)*r≠0:=by
  rw[←Int.natCast_mul]
  have:=Nat.mul_pos hk.1 hr.1
  omega
 obtain⟨f,la,a',q,p,g,d1⟩:=jiJ (kd:=1) (last:=0) (f:=9) (s':=⟨k,r,jah k r,0,0,false,0,⟨#[]⟩,[],[],0⟩) (by omega) hd' (by omega) (by omega) (.inr ⟨_,rfl,fun a ha=>by
  have d0:d.drop a=varN k++(varN r++jga k r (jah k r) 0 0 false 0 ⟨#[]⟩ [] L2 x2 y2 hd2 m2 t2 l2):=by rw[ha];simp[jar]
  obtain⟨a1,a2,d1⟩:=jaZ d0 (by omega)
  obtain⟨a3,a4,d2⟩:=jaZ d1 (by omega)
  refine⟨_,?_,d2⟩
  simp only[thG,RS.at_,th1,if_true]
  rw[if_neg (by simp[a1]),if_neg (by simp[a3]),a2,a4,if_neg (by omega),qaa,qaa]
  rfl⟩)
 obtain⟨a2,h2⟩:=jlH (d:=d) (f:=f) (last:=la) (a:=a') (x1:=0) (y1:=0) (m1:=0) (hd1:=false) (t1:=⟨#[]⟩) (l1:=[]) (L1:=jah k r) (by omega) (by omega) (by simp[jah]) (jpB _) (by simp) hB hw d1
 exact⟨a2,g.trans h2⟩
end
end Go.Proofs.YtienkkicehmchaaGreatDoor

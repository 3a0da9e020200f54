/- Texts of this claim, merged by a program of this claim: RnT. -/
import Derived.Test.YtienkkicehmchaaGreatDoorDo26
namespace Go.Proofs.YtienkkicehmchaaGreatDoor
open List renaming length_cons→qaa,append_assoc→qae
open Int renaming toNat_of_nonneg→qab,toNat_natCast→qac
open Nat renaming le_refl→qad
set_option linter.unusedVariables false
set_option linter.unusedSimpArgs false
section
structure Cell2 (c:CD):Prop where
 may:mayB c=true
 wf:CWf c
 wide:c.wide=0
 link:c.link=0
structure All2 (W:List CD):Prop where
 cell:∀c∈W,Cell2 c
 small:W.length≤2000
section
variable {C W:List CD}
theorem All2.at_ (h:All2 W){i:Nat}(hi:i<W.length):Cell2 (cAt W i):=h.cell _ (List.mem_of_getElem? (je0 hi))
theorem All2.one (h:All2 W){i:Nat}(hi:i<W.length):jaa W i=1:=by
 unfold jaa
 rw[if_neg (by rw[(h.at_ hi).wide];decide)]
theorem jkw (hT:All2 W){x:Nat}{l:List Nat}:∀(t i:Nat),W.length-i≤t→rem (jaj C W) (jaa W) W.length i=x::l →
  mix C W i=mix C W x∧i≤x∧x<W.length∧rem (jaj C W) (jaa W) W.length x=x::l∧l=rem (jaj C W) (jaa W) W.length (x+1)
 | 0,i,ht,h=>by rw[jgG (by omega)]at h;cases h
 | t+1,i,ht,h=>by
  rcases Nat.lt_or_ge i W.length with q|q
  ·have hs:=jcA (oth:=jaj C W) (fun i=>(jao W i).1) q
   have h0:=h
   rw[hs]at h
   cases ho:jaj C W i
   ·rw[ho]at h
    have:=(jao W i).1
    obtain⟨h1,h2,h3⟩:=jkw hT t (i+jaa W i) (by omega) (by simpa using h)
    exact⟨(jmX ho).trans h1,by omega,h3⟩
   ·rw[ho]at h
    simp only[if_true,List.cons_append,List.nil_append]at h
    injection h with e1 e2
    subst e1
    exact⟨rfl,qad _,q,h0,by rw[←e2,hT.one q]⟩
  ·rw[jgG q]at h
   cases h
theorem jzQ (hl:C.length=W.length){i:Nat}(hi:i<W.length):(mix C W i).set i (cAt W i)=mix C W (i+1):=by
 refine List.ext_getElem? fun j=>?_
 rw[jku hl,List.getElem?_set,jku hl,jif hl (Nat.le_of_lt hi)]
 by_cases hj:i=j
 ·subst hj
  rw[if_pos rfl,if_pos hi,if_pos (by omega),je0 hi]
 ·rw[if_neg hj]
  by_cases h3:j<i
  ·rw[if_pos h3,if_pos (by omega)]
  ·rw[if_neg h3,if_neg (by omega)]
theorem jqT {d:List Int}(hT:All2 W) (hl:C.length=W.length){p:PD}:∀(l:List Nat) (e a:Nat) (R:List Int),l=rem (jaj C W) (jaa W) W.length e→e≤W.length →
  d.drop a=jbE W (runP W p e l).1++R→∃a',d.drop a'=R∧le3G d p (runP W p e l).1.length a e (mix C W e)=(0,a',mix C W (runP W p e l).2.1) ∧
   (runP W p e l).2.2=rem (jaj C W) (jaa W) W.length (runP W p e l).2.1∧(runP W p e l).2.1=e+(runP W p e l).1.length∧(runP W p e l).2.1≤W.length
 | [],e,a,R,h,he,hd=>⟨a,by simpa[runP,jbE] using hd,rfl,h,rfl,he⟩
 | x::l,e,a,R,h,he,hd=>by
  by_cases q:x=e∧(cAt W x).pen=p
  ·obtain⟨rfl,hp⟩:=q
   obtain⟨_,_,hx,_,hr⟩:=jkw hT W.length x (by omega) h.symm
   have hone:=hT.one hx
   have hrun:runP W p x (x::l)=((x::(runP W p (x+1) l).1),(runP W p (x+1) l).2):=by rw[runP,if_pos ⟨rfl,hp⟩,hone]
   rw[hrun]at hd ⊢
   have hc:=hT.at_ hx
   have hw:=jfF hc.may (by rw[hc.wide];decide)
   have hwr:=jf1 (c:=(cAt W x).rune) (by have:=hc.wide;omega)
   have hd':d.drop a=varN (cAt W x).rune.toNat++(jbE W (runP W p (x+1) l).1++R):=by rw[hd];simp[jbE]
   obtain⟨v1,v2,v3⟩:=jaZ hd' (by omega)
   have u1:=jeZ (most:=1114111) hd' (by omega) (by omega)
   obtain⟨a',r1,r2,r3,r4,r5⟩:=jqT hT hl l (x+1) (a+varU d a) R hr (by omega) v3
   refine⟨a',r1,?_,r3,?_,r5⟩
   ·have hv:varV d a=(cAt W x).rune:=by rw[v2];omega
    have hcell:(⟨varV d a,0,p.fg,p.bg,p.attrs,0⟩:CD)=cAt W x:=jqP hv hc.wide.symm (by
     rw[←hp]
     have:=hc.link
     simp only[CD.pen,this])
    rw[qaa,le3G,if_neg (by simp[u1]),hcell,if_neg (by rw[hc.may];decide),jzQ hl hx]
    exact r2
   ·rw[r4,qaa]
    omega
  ·have hrun:runP W p e (x::l)=([],e,x::l):=by rw[runP,if_neg q]
   rw[hrun]at hd ⊢
   exact⟨a,by simpa[jbE] using hd,rfl,h,rfl,he⟩
theorem jqU {d:List Int}(hT:All2 W) (hl:C.length=W.length):∀(f e a:Nat) (R:List Int),(rem (jaj C W) (jaa W) W.length e).length≤f→e≤W.length →
  d.drop a=(lay3 W f e (rem (jaj C W) (jaa W) W.length e)).1++R→∃a',d.drop a'=R∧rn3G d (lay3 W f e (rem (jaj C W) (jaa W) W.length e)).2 a e (mix C W e)=(0,a',W)
 | f,e,a,R,hf,he,hd=>by
  rcases hr:rem (jaj C W) (jaa W) W.length e with _|⟨x,l⟩
  ·rw[hr,jhG]at hd
   rw[jhG]
   exact⟨a,by simpa using hd,by rw[rn3G,jkv hl _ _ (qad _) hr]⟩
  ·obtain⟨g,rfl⟩:∃g,f=g+1:=⟨f-1,by rw[hr,qaa]at hf;omega⟩
   obtain⟨m1,m2,m3,m6,m7⟩:=jkw hT W.length e (by omega) hr
   rw[hr]at hd hf
   rw[lay3]at hd ⊢
   obtain⟨p,hp⟩:∃p,(cAt W x).pen=p:=⟨_,rfl⟩
   rw[hp]at hd ⊢
   have hlen:=jbT W p (x::l) x
   have hpos:1≤(runP W p x (x::l)).1.length:=by
    have:=(jbD W x l).1
    rw[hp]at this
    rw[this,qaa]
    omega
   have hcount:(runP W p x (x::l)).1.length≤W.length-x:=by
    have h1:(rem (jaj C W) (jaa W) W.length x).length≤W.length-x:=ji7 _ _
    rw[m6]at h1
    omega
   have hsm:=hT.small
   have hc:=hT.at_ m3
   have hpen:jcQ p.fg=true∧jcQ p.bg=true:=by
    have hmay:=hc.may
    unfold mayB at hmay
    rw[hp]at hmay
    simp only[Bool.and_eq_true]at hmay
    have:=hmay.1
    unfold penB at this
    simpa using this
   have f1:0≤p.fg∧p.fg<4294967296:=by rw[←hp];exact hc.wf.fg
   have f2:0≤p.bg∧p.bg<4294967296:=by rw[←hp];exact hc.wf.bg
   have f3:0≤p.attrs∧p.attrs<256:=by rw[←hp];exact hc.wf.attrs
   have f4:p.link=0:=by rw[←hp];exact hc.link
   generalize hcnt:(runP W p x (x::l)).1.length=cnt at *
   have d0:d.drop a=varN (x-e)++(varN cnt++(varN p.fg.toNat++(varN p.bg.toNat++(varN p.attrs.toNat++(jbE W (runP W p x (x::l)).1++((lay3 W g (runP W p x (x::l)).2.1 (runP W p x (x::l)).2.2).1++R)))))):=by
    rw[hd]
    simp[jar,pen3]
   obtain⟨a1,a2,d1⟩:=jaZ d0 (by omega)
   have b1:=jeZ (most:=(W.length:Int)-e) d0 (by omega) (by omega)
   obtain⟨a3,a4,d2⟩:=jaZ d1 (by omega)
   have b2:=jeZ (most:=(W.length:Int)-x) d1 (by omega) (by omega)
   obtain⟨a5,a6,d3⟩:=jaZ d2 (by omega)
   have b3:=jja d2 (by omega) (by rw[qab f1.1];exact hpen.1)
   obtain⟨a7,a8,d4⟩:=jaZ d3 (by omega)
   have b4:=jja d3 (by omega) (by rw[qab f2.1];exact hpen.2)
   obtain⟨a9,a10,d5⟩:=jaZ d4 (by omega)
   have b5:=jeZ (most:=255) d4 (by omega) (by omega)
   have hH:∃b,hd3G d a e W.length=⟨0,b,x,cnt,p⟩∧d.drop b=jbE W (runP W p x (x::l)).1++((lay3 W g (runP W p x (x::l)).2.1 (runP W p x (x::l)).2.2).1++R):=by
    refine⟨_,?_,d5⟩
    unfold hd3G
    simp only
    rw[if_neg (by simp[b1]),a2,qac,show e+(x-e)=x by omega,if_neg (by simp[b2]),a4,if_neg (by omega),if_neg (by simp[b3]),if_neg (by simp[b4]),if_neg (by simp[b5]),a6,a8,a10,qac,qab f1.1,qab f2.1,qab f3.1]
    have:(⟨p.fg,p.bg,p.attrs,0⟩:PD)=p:=by rw[←f4]
    rw[this]
   obtain⟨b,hH,d6⟩:=hH
   obtain⟨a',r1,r2,r3,r4,r5⟩:=jqT hT hl (p:=p) (x::l) x b _ m6.symm (by omega) d6
   rw[hcnt]at r2 r4
   rw[r3]at r1 ⊢
   have hle:(rem (jaj C W) (jaa W) W.length (runP W p x (x::l)).2.1).length≤g:=by
    rw[←r3]
    rw[qaa]at hf hlen
    omega
   obtain⟨a2',s1,s2⟩:=jqU hT hl g _ a' R hle r5 r1
   refine⟨a2',s1,?_⟩
   rw[rn3G,jif hl he,hH]
   simp only[ne_eq,not_true_eq_false,if_false]
   rw[m1,r2]
   simp only[ne_eq,not_true_eq_false,if_false]
   rw[←r4]
   exact s2
end
theorem jkx {d:List Int}{kd last:Int}{B R:List Int}{s s':RS}{f:Nat}(hf:1≤f) (hd:d.drop s.a=B++R) (hl:last<kd) (hk:kd≤5)
  (h:(B=[]∧s'.at_ s.a=s)∨∃body,B=kd::body∧∀a,d.drop a=body++R→∃a',thR d kd (s.at_ a)=(0,s'.at_ a')∧d.drop a'=R) :
  ∃f' last' a',f≤f'+1∧last'≤kd∧goR d f last s=goR d f' last' (s'.at_ a')∧d.drop a'=R:=by
 rcases h with⟨rfl,h⟩|⟨body,rfl,h⟩
 ·exact⟨f,last,s.a,by omega,by omega,by rw[h],by simpa using hd⟩
 ·obtain⟨g,rfl⟩:∃g,f=g+1:=⟨f-1,by omega⟩
  obtain⟨hlt,hg,h2⟩:=jfG hd
  obtain⟨a',h3,h4⟩:=h (s.a+1) h2
  refine⟨g,kd,a',by omega,by omega,?_,h4⟩
  rw[goR,if_neg (by omega),hg,if_neg (by omega)]
  show (if (thR d kd (s.at_ (s.a+1))).1≠0 then _ else goR d g kd (thR d kd (s.at_ (s.a+1))).2)=_
  rw[h3]
  rfl
theorem jzR {d:List Int}{f:Nat}{last:Int}{s:RS}(h:d.drop s.a=[]):goR d f last s=(0,s):=by
 cases f with
 | zero=>rfl
 | succ f =>
  have:=List.length_drop (l:=d) (i:=s.a)
  rw[h]at this
  simp only[List.length_nil]at this
  rw[goR,if_pos (by omega)]
theorem jA3 {d:List Int}{kd:Int}(h:kd≠5) (s:RS):thR d kd s=thG d kd s:=if_neg h
theorem jqV {d B:List Int}{kd:Int}{s s':RS}{R:List Int}(hk:kd≠5) (h:(B=[]∧s'.at_ s.a=s)∨∃body,B=kd::body∧∀a,d.drop a=body++R→∃a',thG d kd (s.at_ a)=(0,s'.at_ a')∧d.drop a'=R) :
  (B=[]∧s'.at_ s.a=s)∨∃body,B=kd::body∧∀a,d.drop a=body++R→∃a',thR d kd (s.at_ a)=(0,s'.at_ a')∧d.drop a'=R:=by
 simp only[jA3 hk]
 exact h
theorem jBP {d R:List Int}{s:RS}{C W:List CD}(hT:All2 W) (hL:s.L=C) (hC:C.length=W.length) :
  (jiL C W=[]∧({ s with L:=W }:RS).at_ s.a=s)∨∃body,jiL C W=5::body∧∀a,d.drop a=body++R→∃a',thR d 5 (s.at_ a)=(0,({ s with L:=W }:RS).at_ a')∧d.drop a'=R:=by
 obtain⟨l,el⟩:∃l,l=rem (jaj C W) (jaa W) W.length 0:=⟨_,rfl⟩
 have hm0:mix C W 0=C:=by simp[mix]
 have hsm:=hT.small
 have hlen:l.length≤W.length:=by rw[el];exact jbC
 have hrun:jiT C W=lay3 W l.length 0 l:=by rw[el];rfl
 unfold jiL
 rw[hrun]
 split
 ·rename_i q
  refine .inl ⟨rfl,?_⟩
  have hn:l=[]:=by
   cases l with
   | nil=>rfl
   | cons x l' =>
    rw[qaa,lay3]at q
    omega
  rw[hn]at el
  have:=jkv hC _ 0 (qad _) el.symm
  rw[hm0]at this
  cases s
  simp only[RS.at_,RS.mk.injEq,true_and,and_true]at *
  exact this.symm.trans hL.symm
 ·rename_i q
  refine .inr ⟨_,rfl,fun a ha=>?_⟩
  have hcnt:∀(f bh:Nat) (l:List Nat),l.length≤f→(lay3 W f bh l).2≤l.length:=fun f=>by
   induction f with
   | zero=>intro bh l h;simp[lay3]
   | succ f ih =>
    intro bh l h
    cases l with
    | nil=>simp[lay3]
    | cons x l' =>
     have h1:=jbT W (cAt W x).pen (x::l') x
     have h2:=(jbD W x l').1
     rw[h2]at h1
     simp only[qaa]at h1 h
     have:=ih (runP W (cAt W x).pen x (x::l')).2.1 (runP W (cAt W x).pen x (x::l')).2.2 (by omega)
     rw[lay3,qaa]
     show _+1≤_+1
     omega
  have hcnt:=hcnt l.length 0 l (qad _)
  have d0:d.drop a=varN (lay3 W l.length 0 l).2++((lay3 W l.length 0 l).1++R):=by rw[ha,qae]
  obtain⟨a1,a2,d1⟩:=jaZ d0 (by omega)
  rw[el]at d1
  obtain⟨a',e1,e2⟩:=jqU hT hC (rem (jaj C W) (jaa W) W.length 0).length 0 _ R (qad _) (Nat.zero_le _) d1
  rw[←el,hm0]at e2
  refine⟨a',?_,e1⟩
  have hg:rs3G d a C=(0,a',W):=by
   have hs:jc2 d a=0:=by
    unfold jc2
    rw[if_neg (by simp[a1]),a2,if_neg (by omega)]
   unfold rs3G
   rw[if_neg (by simp[hs]),a2,qac]
   exact e2
  simp only[thR,RS.at_,th5R,if_true]
  rw[hL,hg]
  rfl
theorem jky {d:List Int}{k r:Nat}{L1 L2:List CD}{x1 y1 m1 x2 y2 m2:Nat}{hd1 hd2:Bool}{t1 t2:ByteArray}{l1 mr:List ByteArray}{f:Nat}{last:Int}{a:Nat}(hf:4≤f) (hl:last≤1)
  (h1:L1.length=k*r) (hB:RFact k r L2 x2 y2 m2 t2 []) (hc:All2 L2) (hd:d.drop a=jih L1 x1 y1 hd1 m1 t1 L2 x2 y2 hd2 m2 t2) :
  ∃a',goR d f last ⟨k,r,L1,x1,y1,hd1,m1,t1,l1,mr,a⟩=(0,⟨k,r,L2,x2,y2,hd2,m2,t2,l1,mr,a'⟩):=by
 have hr:=hB.r1
 unfold jih at hd
 simp only[qae]at hd
 obtain⟨f2,la2,a2,q2,p2,g2,d2⟩:=jkx (d:=d) (s:=⟨k,r,L1,x1,y1,hd1,m1,t1,l1,mr,a⟩) (s':=⟨k,r,L1,x2,y2,hd2,m1,t1,l1,mr,a⟩) (f:=f) (last:=last) (kd:=2) (by omega) hd (by omega) (by omega) (jqV (by decide) (kd2_ (s:=⟨k,r,L1,x1,y1,hd1,m1,t1,l1,mr,a⟩) (k:=k) (r:=r) (x1:=x1) (y1:=y1) rfl rfl rfl rfl rfl hB.x1 hB.y1 hB.k1.2 hr.2))
 obtain⟨f3,la3,a3,q3,p3,g3,d3⟩:=jkx (d:=d) (s:=⟨k,r,L1,x2,y2,hd2,m1,t1,l1,mr,a2⟩) (s':=⟨k,r,L1,x2,y2,hd2,m1,t2,l1,mr,a2⟩) (f:=f2) (last:=la2) (kd:=3) (by omega) d2 (by omega) (by omega) (jqV (by decide) (kd3_ (s:=⟨k,r,L1,x2,y2,hd2,m1,t1,l1,mr,a2⟩) rfl hB.ti1))
 obtain⟨f4,la4,a4,q4,p4,g4,d4⟩:=jkx (d:=d) (s:=⟨k,r,L1,x2,y2,hd2,m1,t2,l1,mr,a3⟩) (s':=⟨k,r,L1,x2,y2,hd2,m2,t2,l1,mr,a3⟩) (f:=f3) (last:=la3) (kd:=4) (by omega) d3 (by omega) (by omega) (jqV (by decide) (kd4_ (s:=⟨k,r,L1,x2,y2,hd2,m1,t2,l1,mr,a3⟩) (m1:=m1) rfl hB.mo1))
 obtain⟨f5,la5,a5,q5,p5,g5,d5⟩:=jkx (d:=d) (R:=[]) (s:=⟨k,r,L1,x2,y2,hd2,m2,t2,l1,mr,a4⟩) (s':=⟨k,r,L2,x2,y2,hd2,m2,t2,l1,mr,a4⟩) (f:=f4) (last:=la4) (kd:=5) (by omega) (by rw[List.append_nil];exact d4) (by omega) (by omega) (jBP (s:=⟨k,r,L1,x2,y2,hd2,m2,t2,l1,mr,a4⟩) hc rfl (h1.trans hB.len.symm))
 refine⟨a5,?_⟩
 rw[g2]
 simp only[RS.at_]
 rw[g3]
 simp only[RS.at_]
 rw[g4]
 simp only[RS.at_]
 rw[g5]
 simp only[RS.at_]
 exact jzR d5
theorem jpF {d:List Int}{k r:Nat}{L2:List CD}{x2 y2 m2:Nat}{hd2:Bool}{t2:ByteArray}(s:RS) (h0:s.a=0) (hB:RFact k r L2 x2 y2 m2 t2 []) (hc:All2 L2)
  (hd:d=jzO k r L2 x2 y2 hd2 m2 t2):∃a',goR d 6 0 s=(0,⟨k,r,L2,x2,y2,hd2,m2,t2,[],[],a'⟩):=by
 have hk:=hB.k1
 have hr:=hB.r1
 have hd':d.drop s.a=((1:Int)::jar [k,r])++jih (jah k r) 0 0 false 0 ⟨#[]⟩ L2 x2 y2 hd2 m2 t2:=by rw[h0,hd];rfl
 have hpos:(k:Int)*r≠0:=by
  rw[←Int.natCast_mul]
  have:=Nat.mul_pos hk.1 hr.1
  omega
 obtain⟨f,la,a',q,p,g,d1⟩:=jkx (kd:=1) (last:=0) (f:=6) (s':=⟨k,r,jah k r,0,0,false,0,⟨#[]⟩,[],[],0⟩) (by omega) hd' (by omega) (by omega) (jqV (by decide) (.inr ⟨_,rfl,fun a ha=>by
  have d0:d.drop a=varN k++(varN r++jih (jah k r) 0 0 false 0 ⟨#[]⟩ L2 x2 y2 hd2 m2 t2):=by rw[ha];simp[jar]
  obtain⟨a1,a2,d1⟩:=jaZ d0 (by omega)
  obtain⟨a3,a4,d2⟩:=jaZ d1 (by omega)
  refine⟨_,?_,d2⟩
  simp only[thG,RS.at_,th1,if_true]
  rw[if_neg (by simp[a1]),if_neg (by simp[a3]),a2,a4,if_neg (by omega),qac,qac]
  rfl⟩))
 obtain⟨a2,h2⟩:=jky (d:=d) (f:=f) (last:=la) (a:=a') (x1:=0) (y1:=0) (m1:=0) (hd1:=false) (t1:=⟨#[]⟩) (l1:=[]) (mr:=[]) (L1:=jah k r) (by omega) (by omega) (by simp[jah]) hB hc d1
 exact⟨a2,g.trans h2⟩
theorem jbH {k r:Int}{L:List CD}{x y mo:Int}{ti:ByteArray}{l:List ByteArray}(h:jaB k r L x y mo ti l=true) (hw:∀c∈L,CWf c) (hm:0≤mo):jal k r L x y mo ti l=true∧l=[]∧All2 L:=by
 unfold jaB at h
 simp only[Bool.and_eq_true,decide_eq_true_eq,List.all_eq_true]at h
 obtain⟨⟨h1,h2⟩,h4⟩:=h
 have hl:l=[]:=List.length_eq_zero_iff.1 h2
 obtain⟨K,R,X,Y,M,rfl,rfl,rfl,rfl,rfl,f⟩:=jan h1 hm
 have ht:=f.tell hw
 refine⟨h1,hl,⟨fun c hc=>?_,ht.small⟩⟩
 have hf:=h4 c hc
 unfold fit2 at hf
 simp only[beq_iff_eq]at hf
 have hk:=f.lk c hc
 subst hl
 have hw1:=(hw c hc).link
 obtain⟨i,hi⟩:=List.getElem?_of_mem hc
 have hb:=ht.may i (List.getElem?_eq_some_iff.1 hi).1
 rw[je7 hi]at hb
 exact⟨hb,hw c hc,hf,by simp at hk;omega⟩
end
end Go.Proofs.YtienkkicehmchaaGreatDoor

/- DiffTells: whatever the input, the law's function answers true, and its arguments read as they did. No condition but the given row's own: the two tables of utf start as the program's text lays them (the given tie). -/
import Derived.Test.YtienkkicehmchaaGreatDoorDl49
import Derived.Test.YtienkkicehmchaaGreatDoorDl51
namespace Go.Proofs.YtienkkicehmchaaGreatDoor
set_option linter.unusedVariables false
set_option linter.unusedSimpArgs false
section
open Go.ChangeShapes Go.WideShapes Go.ChangeAt Go.RowKit Go.Deep Go.Joins
set_option maxRecDepth 100000
set_option maxHeartbeats 2000000
theorem law_rel {w:World}{c0:CV}{u0:Value}{c1:CV}{u1:Value}{c2:CV}{u2:Value}(h0:VRel (jds w) noF c0 u0) (h1:VRel (jds w) noF c1 u1) (h2:VRel (jds w) noF c2 u2):∀(i:Nat) (e:CV) (x:Value),[c0,c1,c2][i]?=some e→#[u0,u1,u2][i]?=some x→VRel (jds w) noF e x:=fun i e x he hx=>by
 match i with
 | 0=>cases he;cases hx;exact h0
 | 1=>cases he;cases hx;exact h1
 | 2=>cases he;cases hx;exact h2
 | n+3=>cases he
namespace diffTellsL
theorem contract (H:Type) (enc:TypeId×Value→H) (W:World) (base:Nat) (args:Array Value) (ds gs:List (DataW H)) (before:List MemPlace)
  (hval:∀(j:Nat) t v,Tryz.f3.params[j]?=some t→args[j]?=some v→Value.okWide Tryz.prog W .any base t v)
  (hW:DataW.Whole enc Tryz.prog Tryz.f3.params.toList Rows.diffTellsSpec.vars false W args.toList ds gs before) (hL:laidMetH Tryz.prog Rows.diffTellsRow.laid W) :
  Calls Tryz.prog 3 args W fun e W'=>∃v,e=.returned v∧Rows.diffTellsSpec.post enc Tryz.prog Tryz.f3 false true false false W args v W':=by
 have hW':=hW
 obtain⟨p,q,hA0,hV,rfl,hfz,hnd⟩:=hW
 have hA:DataW.TrodAll enc Tryz.prog W 0 (fun _=>true) true Tryz.f3.params.toList args.toList ds p:=hA0
 rw[Tryz.params3]at hA hval
 obtain⟨v0,vs0,d0,ds0,p0,q0,hargs,rfl,rfl,h0,r0⟩:=trodAll_cons hA
 obtain⟨v1,vs1,d1,ds1,p1,q1,rfl,rfl,rfl,h1,r1⟩:=trodAll_cons r0
 obtain⟨v2,vs2,d2,ds2,p2,q2,rfl,rfl,rfl,h2,r2⟩:=trodAll_cons r1
 obtain⟨rfl,rfl,rfl⟩:=trodAll_nil r2
 obtain rfl:args=#[v0,v1,v2]:=by cases args;simp_all
 obtain⟨rfl,rfl⟩:=trodVars_none hV
 have k0:=h0
 have lt0:∀x∈p0,x.block<W.heap.size:=by obtain⟨m,hm⟩:=k0;exact DataW.trod_lt m _ _ _ hm
 have k1:=h1
 have lt1:∀x∈p1,x.block<W.heap.size:=by obtain⟨m,hm⟩:=k1;exact DataW.trod_lt m _ _ _ hm
 have k2:=h2
 have lt2:∀x∈p2,x.block<W.heap.size:=by obtain⟨m,hm⟩:=k2;exact DataW.trod_lt m _ _ _ hm
 obtain⟨n0,rfl,_,_,w0⟩:=open_int Tryz.underlying3 (hval 0 3 v0 rfl rfl) h0
 have g0:=jtS w0
 have e0:VRel (jds W) noF (.int .i64 n0) (.int .i64 n0):=.int _ _
 obtain⟨k,r,L,x,y,hd,mo,ti,l,e1,g1⟩:=jpK (hval 1 25 v1 rfl rfl) h1
 obtain⟨k',r',L',x',y',hd',mo',ti',l',e2,g2⟩:=jpK (hval 2 25 v2 rfl rfl) h2
 clear hA0
 simp only[List.append_nil]at hW'
 have hL':laidMet Tryz.prog [("spyglass/utf.none",Rows.laid_spyglass_utf_none),("spyglass/utf.wide",Rows.laid_spyglass_utf_wide)] W:=hL
 have T:=jyG hL'
 refine (TF.row (joB _ _ _ (jj2 n0 k r L x y hd mo ti l k' r' L' x' y' hd' mo' ti' l') ⟨g0,g1,g2⟩) W #[.int .i64 n0,v1,v2] rfl (law_rel e0 e1 e2) (jyH T)).mono fun e W' ⟨he,bel⟩=>?_
 subst he
 exact⟨_,rfl,_,_,_,[],_,[],hW',trodAll_mk1 (shut_bool Tryz.underlying4 _),(trodAll_cons_mk (Below.trod joC (by kernel_rfl) (of_decide_eq_true (by kernel_rfl)) k0 bel lt0) (trodAll_cons_mk (Below.trod joC (by kernel_rfl) (of_decide_eq_true (by kernel_rfl)) k1 bel lt1) (trodAll_cons_mk (Below.trod joC (by kernel_rfl) (of_decide_eq_true (by kernel_rfl)) k2 bel lt2) trodAll_mk0))),rfl,bel.frame _,fun h=>by cases h⟩
theorem laid_met (os:Os):laidMet Tryz.prog Rows.diffTellsRow.laid ((jjR os).forCall (fun _ _=>0) ⟨#[],#[.int .i64 0,.agg #[.int .i64 0,.int .i64 0,.slice none 0 0,.int .i64 0,.int .i64 0,.bool false,.int .u8 0,.string ⟨#[]⟩,.slice none 0 0],.agg #[.int .i64 0,.int .i64 0,.slice none 0 0,.int .i64 0,.int .i64 0,.bool false,.int .u8 0,.string ⟨#[]⟩,.slice none 0 0]],[]⟩).memory :=
 laidMet_of_run' 8 (by kernel_rfl) (by kernel_rfl)
theorem reads (os:Os){H:Type}(enc:TypeId×Value→H):∃places,DataW.whole enc Tryz.prog ((jjR os).forCall (fun _ _=>0) ⟨#[],#[.int .i64 0,.agg #[.int .i64 0,.int .i64 0,.slice none 0 0,.int .i64 0,.int .i64 0,.bool false,.int .u8 0,.string ⟨#[]⟩,.slice none 0 0],.agg #[.int .i64 0,.int .i64 0,.slice none 0 0,.int .i64 0,.int .i64 0,.bool false,.int .u8 0,.string ⟨#[]⟩,.slice none 0 0]],[]⟩).memory Tryz.f3.params.toList Rows.diffTellsSpec.vars false #[(show Value from .int .i64 0),(show Value from .agg #[.int .i64 0,.int .i64 0,.slice none 0 0,.int .i64 0,.int .i64 0,.bool false,.int .u8 0,.string ⟨#[]⟩,.slice none 0 0]),(show Value from .agg #[.int .i64 0,.int .i64 0,.slice none 0 0,.int .i64 0,.int .i64 0,.bool false,.int .u8 0,.string ⟨#[]⟩,.slice none 0 0])].toList 8=some ([.lit (.int .i64 0),.agg [.lit (.int .i64 0),.lit (.int .i64 0),.nil,.lit (.int .i64 0),.lit (.int .i64 0),.lit (.bool false),.lit (.int .u8 0),.lit (.string []),.nil],.agg [.lit (.int .i64 0),.lit (.int .i64 0),.nil,.lit (.int .i64 0),.lit (.int .i64 0),.lit (.bool false),.lit (.int .u8 0),.lit (.string []),.nil]],[],places) :=
 ⟨[],by kernel_rfl⟩
set_option maxRecDepth 100000 in
theorem lifted (os:Os) (started:os.Started) (H:Type) (enc:TypeId×Value→H) (F:Stop.Interp) :
  ReturnsInHanded {} Tryz.checked os 3 .any ((OpenSpec.ofChange Rows.diffTellsSpec).preRow enc Tryz.prog Tryz.f3 Rows.diffTellsRow.domain false Rows.diffTellsRow.laid) (((OpenSpec.ofChange Rows.diffTellsSpec).at F).post enc Tryz.prog Tryz.f3 false true false false):=by
 obtain⟨places,hx⟩:=reads os enc
 refine returnsInHanded_of_row (C:=Tryz.checked) (s:=OpenSpec.ofChange Rows.diffTellsSpec) own started (by kernel_rfl) Tryz.func3
  (witness_row_at (enc:=enc) (C:=Tryz.checked) false (jjR os) #[.int .i64 0,.agg #[.int .i64 0,.int .i64 0,.slice none 0 0,.int .i64 0,.int .i64 0,.bool false,.int .u8 0,.string ⟨#[]⟩,.slice none 0 0],.agg #[.int .i64 0,.int .i64 0,.slice none 0 0,.int .i64 0,.int .i64 0,.bool false,.int .u8 0,.string ⟨#[]⟩,.slice none 0 0]] rfl (by kernel_rfl) (by kernel_rfl) (by kernel_rfl)
   (OpenSpec.preRow_of_cond 8 hx (by kernel_rfl) (fun k hk=>by cases hk) (by kernel_rfl) (laid_met os))) ?_
 intro W base args ds gs before hval hW _ _ _ hL _ _
 exact contract H enc W base args ds gs before hval hW hL
theorem said:Rows.DiffTellsSaid :=
 OpenClaim.holds_of_cond 3 Tryz.f3 rfl rfl rfl rfl rfl rfl rfl ⟨rfl,rfl,rfl,rfl,rfl⟩ rfl rfl rfl rfl rfl (by kernel_rfl) Tryz.func3 (by kernel_rfl)
  (of_decide_eq_true (by kernel_rfl)) (by unfold Func.isWrapper;first|(rw[if_pos (by decide +kernel)];kernel_rfl)|(rw[if_neg (by decide +kernel)];exact⟨rfl,rfl⟩))
  (fun os started H enc _ F=>by rw[OpenClaim.pre_eq_preRow];exact lifted os started H enc F)
theorem plain (f:FuncId) (fn:Func) (hf:Tryz.pinned.checked.prog.funcNamed "spyglass/spyglasslaw19.DiffTells" = some f) (hfn:Tryz.pinned.checked.prog.funcs[f]?=some fn) :
  true=Tryz.pinned.checked.prog.looks []∧∀(j:Nat) t,fn.params[j]?=some t→Tryz.pinned.checked.prog.wantsStandIn t=false:=by
 obtain rfl:f=3:=Option.some.inj ((show Tryz.prog.funcNamed "spyglass/spyglasslaw19.DiffTells" = some 3 by kernel_rfl).symm.trans hf) |>.symm
 obtain rfl:fn=Tryz.f3:=(Option.some.inj (Tryz.func3.symm.trans hfn)).symm
 have hall:Tryz.f3.params.all (fun t=>!Tryz.prog.wantsStandIn t)=true:=by kernel_rfl
 exact⟨by kernel_rfl,fun j t ht=>by
  have:=Array.all_eq_true_iff_forall_mem.1 hall t (Array.mem_of_getElem? ht)
  exact Bool.not_eq_true' _ |>.mp this⟩
theorem card:Rows.DiffTellsCardSaid :=
 Claim7.holds_tied_plain_at .later [] _ _ _ _ said (fun _ h=>by cases h) (by kernel_rfl) (fun _ h=>by cases h) diffTells_row_tie rfl ⟨rfl,rfl⟩ (by kernel_rfl) rfl plain (by kernel_rfl)
#print axioms card
end diffTellsL
end
end Go.Proofs.YtienkkicehmchaaGreatDoor

/-
 tamislaw ReadsPlain: the statement,out of its walk: for every input the call returns true and leaves its arguments as they were.
-/
import Derived.Test.YtmndlfglgcioeaaGreatDoorGRowKit
import Derived.Test.YtmndlfglgcioeaaGreatDoorMLaw24P
import Derived.Test.YtmndlfglgcioeaaGreatDoorMRowLaid
import Derived.Test.YtmndlfglgcioeaaGreatDoorGRowEnv
set_option maxHeartbeats 40000000
namespace Go.Proofs.YtmndlfglgcioeaaGreatDoor.readsPlainDone
open Go.ChangeShapes Go.WideShapes Go.ChangeAt Go.RowKit
open Go.ChangeMaps (open_string shut_string)
set_option linter.unusedVariables false
theorem own:ownKnob Tryz.prog.godebug=none:=by kernel_rfl
theorem laidOut:laidOutB Tryz.prog=true:=by kernel_rfl
set_option maxRecDepth 100000 in
theorem laid_met (os:Os) (args:Array Value):laidMet Tryz.prog Rows.readsPlainRow.laid ((laidWorld os).forCall (fun _ _=>0) ⟨#[],args,[]⟩).memory:=laid_met_any os args
set_option maxRecDepth 100000 in
theorem witness_row (os:Os) {H:Type} (enc:TypeId×Value->H) :
  (OpenSpec.ofChange Rows.readsPlainSpec).preRow enc Tryz.prog Tryz.f7 Rows.readsPlainRow.domain false Rows.readsPlainRow.laid ((laidWorld os).forCall (fun _ _=>0) ⟨#[],#[.slice none 0 0,.slice none 0 0],[]⟩).memory #[.slice none 0 0,.slice none 0 0]:=by
 have hw:(DataW.whole enc Tryz.prog ((laidWorld os).forCall (fun _ _=>0) ⟨#[],#[.slice none 0 0,.slice none 0 0],[]⟩).memory Tryz.f7.params.toList Rows.readsPlainSpec.vars false #[Value.slice none 0 0,Value.slice none 0 0].toList 8).map (fun x=>(x.1,x.2.1)) =
   some ([.nil,.nil],[]):=by kernel_rfl
 obtain ⟨⟨x1,x2,x3⟩,hx,hx1⟩:=Option.map_eq_some_iff.1 hw
 simp only [Prod.mk.injEq] at hx1
 obtain ⟨rfl,rfl⟩:=hx1
 exact OpenSpec.preRow_of_cond 8 hx (by kernel_rfl) (fun k hk=>by cases hk) (by kernel_rfl) (laid_met os _)
set_option maxRecDepth 100000 in
theorem lifted (os:Os) (started:os.Started) (H:Type) (enc:TypeId×Value->H) (F:Stop.Interp) :
  ReturnsInHanded {} Tryz.checked os 7 .any ((OpenSpec.ofChange Rows.readsPlainSpec).preRow enc Tryz.prog Tryz.f7 Rows.readsPlainRow.domain false Rows.readsPlainRow.laid) (((OpenSpec.ofChange Rows.readsPlainSpec).at F).post enc Tryz.prog Tryz.f7 false true false false):=by
 refine returnsInHanded_of_row (C:=Tryz.checked) (s:=OpenSpec.ofChange Rows.readsPlainSpec) own started (by kernel_rfl) Tryz.func7
  (witness_row_at (enc:=enc) (C:=Tryz.checked) false (laidWorld os) #[.slice none 0 0,.slice none 0 0] rfl (by kernel_rfl) (by kernel_rfl) (by kernel_rfl) (witness_row os enc)) ?_
 intro W base args ds gs before hval0 hW _ _ _ hL hsh _
 have hval:∀ (j:Nat) t v,Tryz.f7.params[j]? = some t->args[j]? = some v->Value.okWide Tryz.prog W .any base t v:=hval0
 have hW':=hW
 obtain ⟨p,q,Xa,hV,rfl,hfz,hnd⟩:=hW
 have hA:DataW.TrodAll enc Tryz.prog W 0 (fun _=>true) true Tryz.f7.params.toList args.toList ds p:=Xa
 rw [Tryz.params7] at hA hval
 obtain ⟨v0,vs0,d0,ds0,p0,q0,hargs,rfl,rfl,h0,r0⟩:=trodAll_cons hA
 obtain ⟨v1,vs1,d1,ds1,p1,q1,rfl,rfl,rfl,h1,r1⟩:=trodAll_cons r0
 obtain ⟨rfl,rfl,rfl⟩:=trodAll_nil r1
 obtain rfl:args=#[v0,v1]:=by cases args;simp_all
 obtain ⟨rfl,rfl⟩:=trodVars_none hV
 obtain ⟨a0,len0,cap0,rfl⟩:=okWide_slice Tryz.underlying50 (hval 0 50 v0 rfl rfl)
 have k0:=h0
 have lt0:∀ x ∈ p0,x.block < W.heap.size:=by obtain ⟨m,hm⟩:=k0;exact DataW.trod_lt m _ _ _ hm
 obtain ⟨z0,w0⟩:∃ zs,Eb .u8 W a0 len0 cap0 zs:=by
  obtain ⟨fuel,hf⟩:=h0
  rcases open_ints Tryz.underlying50 Tryz.underlying5 (by kernel_rfl) hf with ⟨hcs,_⟩ | ⟨x,l,c,zs,hcs,_,hl,hm,hz,_,hcell,hwz⟩
  ·simp [Value.cells] at hcs
   obtain ⟨rfl,rfl,rfl⟩:=hcs
   exact ⟨[],.inl ⟨rfl,rfl,rfl,rfl⟩⟩
  simp [Value.cells] at hcs
  obtain ⟨rfl,rfl,rfl⟩:=hcs
  exact ⟨zs,.inr ⟨_,rfl,hl,hm,by simpa using hz,hcell,hwz⟩⟩
 obtain ⟨l0,s0⟩:=w0.bytes
 obtain ⟨a1,len1,cap1,rfl⟩:=okWide_slice Tryz.underlying50 (hval 1 50 v1 rfl rfl)
 have k1:=h1
 have lt1:∀ x ∈ p1,x.block < W.heap.size:=by obtain ⟨m,hm⟩:=k1;exact DataW.trod_lt m _ _ _ hm
 obtain ⟨z1,w1⟩:∃ zs,Eb .u8 W a1 len1 cap1 zs:=by
  obtain ⟨fuel,hf⟩:=h1
  rcases open_ints Tryz.underlying50 Tryz.underlying5 (by kernel_rfl) hf with ⟨hcs,_⟩ | ⟨x,l,c,zs,hcs,_,hl,hm,hz,_,hcell,hwz⟩
  ·simp [Value.cells] at hcs
   obtain ⟨rfl,rfl,rfl⟩:=hcs
   exact ⟨[],.inl ⟨rfl,rfl,rfl,rfl⟩⟩
  simp [Value.cells] at hcs
  obtain ⟨rfl,rfl,rfl⟩:=hcs
  exact ⟨zs,.inr ⟨_,rfl,hl,hm,by simpa using hz,hcell,hwz⟩⟩
 obtain ⟨l1,s1⟩:=w1.bytes
 clear Xa hval0
 have htab:Env W:=⟨tabs_of hL,Xi hsh⟩
 refine (readsPlain_walk (.slice a0 len0 cap0) l0 (.slice a1 len1 cap1) l1 W s0 s1 htab).mono fun e W' ⟨he,bq⟩=>?_
 subst he
 exact ⟨_,rfl,_,_,_,[],_,[],hW',trodAll_mk1 (shut_bool Tryz.underlying4 _),(trodAll_cons_mk (Below.trod laidOut (by kernel_rfl) (of_decide_eq_true (by kernel_rfl)) k0 bq lt0) (trodAll_cons_mk (Below.trod laidOut (by kernel_rfl) (of_decide_eq_true (by kernel_rfl)) k1 bq lt1) trodAll_mk0)),rfl,bq.frame _,fun h=>by cases h⟩
theorem said:Rows.ReadsPlainSaid :=
 OpenClaim.holds_of_cond 7 Tryz.f7 rfl rfl rfl rfl rfl rfl rfl ⟨rfl,rfl,rfl,rfl,rfl⟩ rfl rfl rfl rfl rfl (by kernel_rfl) Tryz.func7 (by kernel_rfl)
  (of_decide_eq_true (by kernel_rfl)) (by unfold Func.isWrapper;first | (rw [if_pos (by decide +kernel)];kernel_rfl) | (rw [if_neg (by decide +kernel)];exact ⟨rfl,rfl⟩))
  (fun os started H enc _ F=>by rw [OpenClaim.pre_eq_preRow];exact lifted os started H enc F)
theorem plain (f:FuncId) (fn:Func) (hf:Tryz.pinned.checked.prog.funcNamed Rows.readsPlainRow.func=some f) (hfn:Tryz.pinned.checked.prog.funcs[f]? = some fn) :
  false=Tryz.pinned.checked.prog.looks []∧∀ (j:Nat) t,fn.params[j]? = some t->Tryz.pinned.checked.prog.wantsStandIn t=false:=by
 obtain rfl:f=7:=Option.some.inj ((show Tryz.prog.funcNamed Rows.readsPlainRow.func=some 7 by kernel_rfl).symm.trans hf) |>.symm
 obtain rfl:fn=Tryz.f7:=(Option.some.inj (Tryz.func7.symm.trans hfn)).symm
 refine ⟨by kernel_rfl,fun j t ht=>?_⟩
 rw [Tryz.params7] at ht
 have hm:t ∈ [50,50]:=by simpa using Array.mem_of_getElem? ht
 simp only [List.mem_cons,List.not_mem_nil,or_false] at hm
 rcases hm with rfl | rfl
 iterate 2
  ·exact (show Tryz.prog.wantsStandIn 50=false by kernel_rfl)
theorem proved:Rows.ReadsPlainCardSaid :=
 Claim7.holds_tied_plain_at .later [] _ _ _ _ said (fun _ h=>by cases h) (by kernel_rfl) (fun _ h=>by cases h) readsPlain_row_tie rfl ⟨rfl,rfl⟩ (by kernel_rfl) rfl plain (by kernel_rfl)
#print axioms proved
end Go.Proofs.YtmndlfglgcioeaaGreatDoor.readsPlainDone

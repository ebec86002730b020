/-
 tamislaw EmitBack: the statement,out of its walk: for every input the call returns true and leaves its arguments as they were.
-/
import Derived.Test.YtmndlfglgcioeaaGreatDoorEGRowKit
import Derived.Test.YtmndlfglgcioeaaGreatDoorEMLaw25B
import Derived.Test.YtmndlfglgcioeaaGreatDoorEGRowAll
import Derived.Test.YtmndlfglgcioeaaGreatDoorEGRowEnv
set_option maxHeartbeats 40000000
namespace Go.Proofs.YtmndlfglgcioeaaGreatDoor.emitBackUptoDone
open Go.ChangeShapes Go.WideShapes Go.ChangeAt Go.RowKit
open Go.ChangeMaps (open_string shut_string)
set_option linter.unusedVariables false
theorem own:ownKnob Tryz.prog.godebug=none:=by kernel_rfl
theorem laidOut:laidOutB Tryz.prog=true:=by kernel_rfl
set_option maxRecDepth 100000 in
theorem laid_met (os:Os) (args:Array Value):laidMet Tryz.prog Rows.emitBackUptoRow.laid ((MP os).forCall (fun _ _=>0) ⟨#[],args,[]⟩).memory:=Wr os args
set_option maxRecDepth 100000 in
theorem witness_row (os:Os) {H:Type} (enc:TypeId×Value->H) :
  (Rows.OpenSpec.upto Rows.emitBackSpec).preRow enc Tryz.prog Tryz.f8 Rows.emitBackUptoRow.domain false Rows.emitBackUptoRow.laid ((MP os).forCall (fun _ _=>0) ⟨#[],#[.int .i64 0,.string ⟨#[]⟩,.slice none 0 0],[]⟩).memory #[.int .i64 0,.string ⟨#[]⟩,.slice none 0 0]:=by
 have hw:(DataW.whole enc Tryz.prog ((MP os).forCall (fun _ _=>0) ⟨#[],#[.int .i64 0,.string ⟨#[]⟩,.slice none 0 0],[]⟩).memory Tryz.f8.params.toList Rows.emitBackSpec.vars false #[Value.int .i64 0,Value.string ⟨#[]⟩,Value.slice none 0 0].toList 8).map (fun x=>(x.1,x.2.1)) =
   some ([.lit (.int .i64 0),.lit (.string []),.nil],[]):=by kernel_rfl
 obtain ⟨⟨x1,x2,x3⟩,hx,hx1⟩:=Option.map_eq_some_iff.1 hw
 simp only [Prod.mk.injEq] at hx1
 obtain ⟨rfl,rfl⟩:=hx1
 exact OpenSpec.preRow_of_cond 8 hx (by kernel_rfl) (fun k hk=>by cases hk;kernel_rfl) (by kernel_rfl) (laid_met os _)
set_option maxRecDepth 100000 in
theorem lifted (os:Os) (started:os.Started) (H:Type) (enc:TypeId×Value->H) (F:Stop.Interp) :
  ReturnsInHanded {} Tryz.checked os 8 .any ((Rows.OpenSpec.upto Rows.emitBackSpec).preRow enc Tryz.prog Tryz.f8 Rows.emitBackUptoRow.domain false Rows.emitBackUptoRow.laid) (((Rows.OpenSpec.upto Rows.emitBackSpec).at F).post enc Tryz.prog Tryz.f8 false true false false):=by
 refine returnsInHanded_of_row (C:=Tryz.checked) (s:=Rows.OpenSpec.upto Rows.emitBackSpec) own started (by kernel_rfl) Tryz.func8
  (witness_row_at (enc:=enc) (C:=Tryz.checked) false (MP os) #[.int .i64 0,.string ⟨#[]⟩,.slice none 0 0] rfl (by kernel_rfl) (by kernel_rfl) (by kernel_rfl) (witness_row os enc)) ?_
 intro W base args ds gs before hval0 hW _ hcond _ hL hsh _
 have hval:∀ (j:Nat) t v,Tryz.f8.params[j]? = some t->args[j]? = some v->Value.okWide Tryz.prog W .any base t v:=hval0
 have hW':=hW
 obtain ⟨p,q,QM,hV,rfl,hfz,hnd⟩:=hW
 have hA:DataW.TrodAll enc Tryz.prog W 0 (fun _=>true) true Tryz.f8.params.toList args.toList ds p:=QM
 rw [Tryz.params8] at hA hval
 obtain ⟨v0,vs0,d0,ds0,p0,q0,hargs,rfl,rfl,h0,r0⟩:=trodAll_cons hA
 obtain ⟨v1,vs1,d1,ds1,p1,q1,rfl,rfl,rfl,h1,r1⟩:=trodAll_cons r0
 obtain ⟨v2,vs2,d2,ds2,p2,q2,rfl,rfl,rfl,h2,r2⟩:=trodAll_cons r1
 obtain ⟨rfl,rfl,rfl⟩:=trodAll_nil r2
 obtain rfl:args=#[v0,v1,v2]:=by cases args;simp_all
 obtain ⟨rfl,rfl⟩:=trodVars_none hV
 obtain ⟨a0,rfl,rfl,rfl,w0⟩:=open_int Tryz.underlying3 (hval 0 3 v0 rfl rfl) h0
 obtain ⟨s1,rfl,rfl,rfl,w1⟩:=open_string Tryz.underlying9 (hval 1 9 v1 rfl rfl) h1
 obtain ⟨a2,len2,cap2,rfl⟩:=okWide_slice Tryz.underlying50 (hval 2 50 v2 rfl rfl)
 have k2:=h2
 have lt2:∀ x ∈ p2,x.block < W.heap.size:=by obtain ⟨m,hm⟩:=k2;exact DataW.trod_lt m _ _ _ hm
 obtain ⟨z2,w2⟩:∃ zs,Ja .u8 W a2 len2 cap2 zs:=by
  obtain ⟨fuel,hf⟩:=h2
  rcases open_ints Tryz.underlying50 Tryz.underlying5 (by kernel_rfl) hf with ⟨hcs,_⟩ | ⟨x,l,c,zs,hcs,_,hl,hm,hz,_,hcell,hwz⟩
  ·simp [Value.cells] at hcs
   obtain ⟨rfl,rfl,rfl⟩:=hcs
   exact ⟨[],.inl ⟨rfl,rfl,rfl,rfl⟩⟩
  simp [Value.cells] at hcs
  obtain ⟨rfl,rfl,rfl⟩:=hcs
  exact ⟨zs,.inr ⟨_,rfl,hl,hm,by simpa using hz,hcell,hwz⟩⟩
 obtain ⟨l2,s2⟩:=w2.bytes
 clear QM hval0
 have hbulk:=of_decide_eq_true (hcond _ rfl)
 simp only [List.append_nil,Rows.uptoBulkAll,Rows.uptoBulk] at hbulk
 have ub1:s1.size<=1048576:=by
  have e:s1.data.toList.length=s1.size:=Array.length_toList
  omega
 have htab:Env W:=⟨a66 hL,a2t hsh⟩
 have htab2:NE W:=ne_of hL
 refine (emitBack_walk a0 s1 (.slice a2 len2 cap2) l2 W w0 w1 s2 ub1 htab htab2).mono fun e W' ⟨he,bL⟩=>?_
 subst he
 exact ⟨_,rfl,_,_,_,[],_,[],hW',trodAll_mk1 (shut_bool Tryz.underlying4 _),(trodAll_cons_mk (shut_int Tryz.underlying3 w0) (trodAll_cons_mk (shut_string Tryz.underlying9 w1) (trodAll_cons_mk (Below.trod laidOut (by kernel_rfl) (of_decide_eq_true (by kernel_rfl)) k2 bL lt2) trodAll_mk0))),rfl,bL.frame _,fun h=>by cases h⟩
theorem said:Rows.EmitBackUptoSaid :=
 OpenClaim.holds_of_cond 8 Tryz.f8 rfl rfl rfl rfl rfl rfl rfl ⟨rfl,rfl,rfl,rfl,rfl⟩ rfl rfl rfl rfl rfl (by kernel_rfl) Tryz.func8 (by kernel_rfl)
  (of_decide_eq_true (by kernel_rfl)) (by unfold Func.isWrapper;first | (rw [if_pos (by decide +kernel)];kernel_rfl) | (rw [if_neg (by decide +kernel)];exact ⟨rfl,rfl⟩))
  (fun os started H enc _ F=>by rw [OpenClaim.pre_eq_preRow];exact lifted os started H enc F)
theorem plain (f:FuncId) (fn:Func) (hf:Tryz.pinned.checked.prog.funcNamed Rows.emitBackUptoRow.func=some f) (hfn:Tryz.pinned.checked.prog.funcs[f]? = some fn) :
  false=Tryz.pinned.checked.prog.looks []∧∀ (j:Nat) t,fn.params[j]? = some t->Tryz.pinned.checked.prog.wantsStandIn t=false:=by
 obtain rfl:f=8:=Option.some.inj ((show Tryz.prog.funcNamed Rows.emitBackUptoRow.func=some 8 by kernel_rfl).symm.trans hf) |>.symm
 obtain rfl:fn=Tryz.f8:=(Option.some.inj (Tryz.func8.symm.trans hfn)).symm
 refine ⟨by kernel_rfl,fun j t ht=>?_⟩
 rw [Tryz.params8] at ht
 have hm:t ∈ [3,9,50]:=by simpa using Array.mem_of_getElem? ht
 simp only [List.mem_cons,List.not_mem_nil,or_false] at hm
 rcases hm with rfl | rfl | rfl
 ·exact (show Tryz.prog.wantsStandIn 3=false by kernel_rfl)
 ·exact (show Tryz.prog.wantsStandIn 9=false by kernel_rfl)
 exact (show Tryz.prog.wantsStandIn 50=false by kernel_rfl)
theorem proved:Rows.EmitBackUptoCardSaid :=
 Claim7.holds_tied_plain_at .later [] _ _ _ _ said (fun _ h=>by cases h) (by kernel_rfl) (fun _ h=>by cases h) emitBackUpto_row_tie rfl ⟨rfl,rfl⟩ (by kernel_rfl) rfl plain (by kernel_rfl)
#print axioms proved
end Go.Proofs.YtmndlfglgcioeaaGreatDoor.emitBackUptoDone

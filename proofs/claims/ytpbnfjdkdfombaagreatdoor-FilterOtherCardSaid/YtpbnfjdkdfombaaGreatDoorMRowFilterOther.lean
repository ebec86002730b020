/-
 tamislaw FilterOther: the statement,out of its walk: for every input the call returns true and leaves its arguments as they were.
-/
import Derived.Test.YtpbnfjdkdfombaaGreatDoorGTrP
import Derived.Test.YtpbnfjdkdfombaaGreatDoorMO
import Derived.Test.YtpbnfjdkdfombaaGreatDoorGGlu
set_option maxHeartbeats 40000000
namespace Go.Proofs.YtpbnfjdkdfombaaGreatDoor.filterOtherDone
open Go.ChangeShapes Go.WideShapes Go.ChangeAt Go.RowKit
open Go.ChangeMaps (open_string shut_string)
set_option linter.unusedVariables false
theorem own:ownKnob Tryz.prog.godebug=none:=by kernel_rfl
theorem laidOut:laidOutB Tryz.prog=true:=by kernel_rfl
set_option maxRecDepth 100000 in
theorem laid_met (os:Os) (args:Array Z):laidMet Tryz.prog Rows.filterOtherRow.laid ((vo os).forCall (λ_ _=>0) ⟨#[],args,[]⟩).memory:=vy os args
set_option maxRecDepth 100000 in
theorem witness_row (os:Os) {H':Type} (enc:TypeId×Z->H') :
  (OpenSpec.ofChange Rows.filterOtherSpec).preRow enc Tryz.prog Tryz.f4 Rows.filterOtherRow.domain false Rows.filterOtherRow.laid ((vo os).forCall (λ_ _=>0) ⟨#[],#[.agg #[.slice none 0 0,.slice none 0 0,.slice none 0 0,.int .i64 0],.agg #[.string ⟨#[]⟩,.string ⟨#[]⟩,.string ⟨#[]⟩,.int .i64 0,.string ⟨#[]⟩,.int .u32 0,.int .u16 0,.int .u16 0,.int .u16 0,.int .u16 0,.int .u16 0,.int .u16 0,.int .u16 0,.int .u16 0,.bool false,.int .i64 0,.bool false,.string ⟨#[]⟩,.slice none 0 0,.bool false,.string ⟨#[]⟩,.bool false,.string ⟨#[]⟩],.string ⟨#[]⟩,.string ⟨#[]⟩,.slice none 0 0],[]⟩).memory #[.agg #[.slice none 0 0,.slice none 0 0,.slice none 0 0,.int .i64 0],.agg #[.string ⟨#[]⟩,.string ⟨#[]⟩,.string ⟨#[]⟩,.int .i64 0,.string ⟨#[]⟩,.int .u32 0,.int .u16 0,.int .u16 0,.int .u16 0,.int .u16 0,.int .u16 0,.int .u16 0,.int .u16 0,.int .u16 0,.bool false,.int .i64 0,.bool false,.string ⟨#[]⟩,.slice none 0 0,.bool false,.string ⟨#[]⟩,.bool false,.string ⟨#[]⟩],.string ⟨#[]⟩,.string ⟨#[]⟩,.slice none 0 0]:=by
 have hw:(DataW.whole enc Tryz.prog ((vo os).forCall (λ_ _=>0) ⟨#[],#[.agg #[.slice none 0 0,.slice none 0 0,.slice none 0 0,.int .i64 0],.agg #[.string ⟨#[]⟩,.string ⟨#[]⟩,.string ⟨#[]⟩,.int .i64 0,.string ⟨#[]⟩,.int .u32 0,.int .u16 0,.int .u16 0,.int .u16 0,.int .u16 0,.int .u16 0,.int .u16 0,.int .u16 0,.int .u16 0,.bool false,.int .i64 0,.bool false,.string ⟨#[]⟩,.slice none 0 0,.bool false,.string ⟨#[]⟩,.bool false,.string ⟨#[]⟩],.string ⟨#[]⟩,.string ⟨#[]⟩,.slice none 0 0],[]⟩).memory Tryz.f4.params.toList Rows.filterOtherSpec.vars false #[Value.agg #[.slice none 0 0,.slice none 0 0,.slice none 0 0,.int .i64 0],Value.agg #[.string ⟨#[]⟩,.string ⟨#[]⟩,.string ⟨#[]⟩,.int .i64 0,.string ⟨#[]⟩,.int .u32 0,.int .u16 0,.int .u16 0,.int .u16 0,.int .u16 0,.int .u16 0,.int .u16 0,.int .u16 0,.int .u16 0,.bool false,.int .i64 0,.bool false,.string ⟨#[]⟩,.slice none 0 0,.bool false,.string ⟨#[]⟩,.bool false,.string ⟨#[]⟩],Value.string ⟨#[]⟩,Value.string ⟨#[]⟩,Value.slice none 0 0].toList 8).map (λx=>(x.1,x.2.1)) =
   some ([.agg [.nil,.nil,.nil,.lit (.int .i64 0)],.agg [.lit (.string []),.lit (.string []),.lit (.string []),.agg [.lit (.int .i64 0),.lit (.string []),.lit (.int .u32 0),.agg [.lit (.int .u16 0),.lit (.int .u16 0),.lit (.int .u16 0),.lit (.int .u16 0),.lit (.int .u16 0),.lit (.int .u16 0),.lit (.int .u16 0),.lit (.int .u16 0)]],.lit (.bool false),.lit (.int .i64 0),.lit (.bool false),.lit (.string []),.nil,.lit (.bool false),.lit (.string []),.lit (.bool false),.lit (.string [])],.lit (.string []),.lit (.string []),.nil],[]):=by kernel_rfl
 obtain ⟨⟨x1,x2,x3⟩,X,hx1⟩:=Option.map_eq_some_iff.1 hw
 simp only [Prod.mk.injEq] at hx1
 obtain ⟨rfl,rfl⟩:=hx1
 exact OpenSpec.preRow_of_cond 8 X (by kernel_rfl) (λk hk=>by cases hk) (by kernel_rfl) (laid_met os _)
set_option maxRecDepth 100000 in
theorem lifted (os:Os) (started:os.Started) (H':Type) (enc:TypeId×Z->H') (F':Stop.Interp) :
  ReturnsInHanded {} Tryz.checked os 4 .any ((OpenSpec.ofChange Rows.filterOtherSpec).preRow enc Tryz.prog Tryz.f4 Rows.filterOtherRow.domain false Rows.filterOtherRow.laid) (((OpenSpec.ofChange Rows.filterOtherSpec).at F').post enc Tryz.prog Tryz.f4 false true false false):=by
 refine returnsInHanded_of_row (C:=Tryz.checked) (s:=OpenSpec.ofChange Rows.filterOtherSpec) own started (by kernel_rfl) Tryz.func4
  (witness_row_at (enc:=enc) (C:=Tryz.checked) false (vo os) #[.agg #[.slice none 0 0,.slice none 0 0,.slice none 0 0,.int .i64 0],.agg #[.string ⟨#[]⟩,.string ⟨#[]⟩,.string ⟨#[]⟩,.int .i64 0,.string ⟨#[]⟩,.int .u32 0,.int .u16 0,.int .u16 0,.int .u16 0,.int .u16 0,.int .u16 0,.int .u16 0,.int .u16 0,.int .u16 0,.bool false,.int .i64 0,.bool false,.string ⟨#[]⟩,.slice none 0 0,.bool false,.string ⟨#[]⟩,.bool false,.string ⟨#[]⟩],.string ⟨#[]⟩,.string ⟨#[]⟩,.slice none 0 0] rfl (by kernel_rfl) (by kernel_rfl) (by kernel_rfl) (witness_row os enc)) ?_
 intro W base args ds gs before hval0 hW _ _ _ hL hsh _
 have hval:∀ (j:Nat) t v,Tryz.f4.params[j]? = some t->args[j]? = some v->Value.okWide Tryz.prog W .any base t v:=hval0
 have hW':=hW
 obtain ⟨p,q,Py,hV,rfl,hfz,hnd⟩:=hW
 have hA:DataW.TrodAll enc Tryz.prog W 0 (λ_=>true) true Tryz.f4.params.toList args.toList ds p:=Py
 rw [Tryz.params4] at hA hval
 obtain ⟨v0,vs0,d0,ds0,p0,q0,hargs,rfl,rfl,h0,r0⟩:=trodAll_cons hA
 obtain ⟨v1,vs1,d1,ds1,p1,q1,rfl,rfl,rfl,Y,r1⟩:=trodAll_cons r0
 obtain ⟨v2,vs2,d2,ds2,p2,q2,rfl,rfl,rfl,I,r2⟩:=trodAll_cons r1
 obtain ⟨v3,vs3,d3,ds3,p3,q3,rfl,rfl,rfl,h3,r3⟩:=trodAll_cons r2
 obtain ⟨v4,vs4,d4,ds4,p4,q4,rfl,rfl,rfl,h4,r4⟩:=trodAll_cons r3
 obtain ⟨rfl,rfl,rfl⟩:=trodAll_nil r4
 obtain rfl:args=#[v0,v1,v2,v3,v4]:=by cases args;simp_all
 obtain ⟨rfl,rfl⟩:=trodVars_none hV
 obtain ⟨c0,rfl⟩:∃ cs,v0=.agg cs:=by
  have X:=hval 0 24 v0 rfl rfl
  unfold Value.okWide at X
  rw [Tryz.underlying24] at X
  obtain ⟨cs,X,_⟩:=X
  exact ⟨cs,X⟩
 have k0:=h0
 have lt0:∀ x ∈ p0,x.block < W.heap.size:=by obtain ⟨m,hm⟩:=k0;exact DataW.trod_lt m _ _ _ hm
 have tr0:Tr enc W 24 c0.toList:=by obtain ⟨fuel,hf⟩:=h0;exact ⟨fuel,_,hf⟩
 obtain ⟨sv0,hv0,tv0,po0,e0,i0⟩:=b0r tr0
 obtain rfl:c0=aY sv0 hv0 tv0 po0.most:=by rw [<- Array.toArray_toList (xs:=c0),e0]
 obtain ⟨c1,rfl⟩:∃ cs,v1=.agg cs:=by
  have X:=hval 1 34 v1 rfl rfl
  unfold Value.okWide at X
  rw [Tryz.underlying34] at X
  obtain ⟨cs,X,_⟩:=X
  exact ⟨cs,X⟩
 have k1:=Y
 have lt1:∀ x ∈ p1,x.block < W.heap.size:=by obtain ⟨m,hm⟩:=k1;exact DataW.trod_lt m _ _ _ hm
 have tr1:Tr enc W 34 c1.toList:=by obtain ⟨fuel,hf⟩:=Y;exact ⟨fuel,_,hf⟩
 obtain ⟨y1,u1,e1,o1,i1⟩:=a93 tr1
 obtain rfl:c1=(cu y1 u1).toArray:=by rw [<- Array.toArray_toList (xs:=c1),e1]
 obtain ⟨s2,rfl,rfl,rfl,w2⟩:=open_string Tryz.underlying9 (hval 2 9 v2 rfl rfl) I
 obtain ⟨s3,rfl,rfl,rfl,w3⟩:=open_string Tryz.underlying9 (hval 3 9 v3 rfl rfl) h3
 obtain ⟨a4,len4,cap4,rfl⟩:=okWide_slice Tryz.underlying25 (hval 4 25 v4 rfl rfl)
 have k4:=h4
 have lt4:∀ x ∈ p4,x.block < W.heap.size:=by obtain ⟨m,hm⟩:=k4;exact DataW.trod_lt m _ _ _ hm
 obtain ⟨z4,w4⟩:∃ zs,xQ .u8 W a4 len4 cap4 zs:=by
  obtain ⟨fuel,hf⟩:=h4
  rcases open_ints Tryz.underlying25 Tryz.underlying5 (by kernel_rfl) hf with ⟨hcs,_⟩ | ⟨x,l,c,zs,hcs,_,hl,hm,hz,_,hcell,hwz⟩
  ·simp [Value.cells] at hcs
   obtain ⟨rfl,rfl,rfl⟩:=hcs
   exact ⟨[],.inl ⟨rfl,rfl,rfl,rfl⟩⟩
  simp [Value.cells] at hcs
  obtain ⟨rfl,rfl,rfl⟩:=hcs
  exact ⟨zs,.inr ⟨_,rfl,hl,hm,by simpa using hz,hcell,hwz⟩⟩
 obtain ⟨l4,s4⟩:=w4.bytes
 clear Py hval0
 have htab:Env W:=⟨a6j hL,a1Q hsh⟩
 have htab2:NE W:=ne_of hL
 refine (filterOther_walk po0 sv0 hv0 tv0 y1 u1 s2 s3 (.slice a4 len4 cap4) l4 W i0 o1 i1 w2 w3 s4 htab htab2).m λe W' ⟨he,bL⟩=>?_
 subst he
 exact ⟨_,rfl,_,_,_,[],_,[],hW',trodAll_mk1 (shut_bool Tryz.underlying4 _),(trodAll_cons_mk (Below.trod laidOut (by kernel_rfl) (of_decide_eq_true (by kernel_rfl)) k0 bL lt0) (trodAll_cons_mk (Below.trod laidOut (by kernel_rfl) (of_decide_eq_true (by kernel_rfl)) k1 bL lt1) (trodAll_cons_mk (shut_string Tryz.underlying9 w2) (trodAll_cons_mk (shut_string Tryz.underlying9 w3) (trodAll_cons_mk (Below.trod laidOut (by kernel_rfl) (of_decide_eq_true (by kernel_rfl)) k4 bL lt4) trodAll_mk0))))),rfl,bL.frame _,λh=>by cases h⟩
theorem said:Rows.FilterOtherSaid :=
 OpenClaim.holds_of_cond 4 Tryz.f4 rfl rfl rfl rfl rfl rfl rfl ⟨rfl,rfl,rfl,rfl,rfl⟩ rfl rfl rfl rfl rfl (by kernel_rfl) Tryz.func4 (by kernel_rfl)
  (of_decide_eq_true (by kernel_rfl)) (by unfold Func.isWrapper;first | (rw [if_pos (by decide +kernel)];kernel_rfl) | (rw [if_neg (by decide +kernel)];exact ⟨rfl,rfl⟩))
  (λos started H' enc _ F'=>by rw [OpenClaim.pre_eq_preRow];exact lifted os started H' enc F')
theorem plain (f:FuncId) (fn:Func) (hf:Tryz.pinned.checked.prog.funcNamed Rows.filterOtherRow.func=some f) (hfn:Tryz.pinned.checked.prog.funcs[f]? = some fn) :
  false=Tryz.pinned.checked.prog.looks []/\∀ (j:Nat) t,fn.params[j]? = some t->Tryz.pinned.checked.prog.wantsStandIn t=false:=by
 obtain rfl:f=4:=Option.some.inj ((show Tryz.prog.funcNamed Rows.filterOtherRow.func=some 4 by kernel_rfl).symm.trans hf) |>.symm
 obtain rfl:fn=Tryz.f4:=(Option.some.inj (Tryz.func4.symm.trans hfn)).symm
 refine ⟨by kernel_rfl,λj t ht=>?_⟩
 rw [Tryz.params4] at ht
 have hm:t ∈ [24,34,9,9,25]:=by simpa using Array.mem_of_getElem? ht
 simp only [List.mem_cons,List.not_mem_nil,or_false] at hm
 rcases hm with rfl | rfl | rfl | rfl | rfl
 ·exact (show Tryz.prog.wantsStandIn 24=false by kernel_rfl)
 ·exact (show Tryz.prog.wantsStandIn 34=false by kernel_rfl)
 iterate 2
  ·exact (show Tryz.prog.wantsStandIn 9=false by kernel_rfl)
 exact (show Tryz.prog.wantsStandIn 25=false by kernel_rfl)
theorem proved:Rows.FilterOtherCardSaid :=
 Claim7.holds_tied_plain_at .later [] _ _ _ _ said (λ_ h=>by cases h) (by kernel_rfl) (λ_ h=>by cases h) filterOther_row_tie rfl ⟨rfl,rfl⟩ (by kernel_rfl) rfl plain (by kernel_rfl)
#print axioms proved
end Go.Proofs.YtpbnfjdkdfombaaGreatDoor.filterOtherDone

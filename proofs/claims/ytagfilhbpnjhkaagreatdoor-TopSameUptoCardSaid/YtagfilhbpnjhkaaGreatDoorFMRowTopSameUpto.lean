/-
 tamislaw TopSame: the statement,out of its walk: for every input the call returns true and leaves its arguments as they were.
-/
import Derived.Test.YtagfilhbpnjhkaaGreatDoorFGTrP
import Derived.Test.YtagfilhbpnjhkaaGreatDoorFMLawTS
import Derived.Test.YtagfilhbpnjhkaaGreatDoorFGRowAll
import Derived.Test.YtagfilhbpnjhkaaGreatDoorFGFloA
set_option maxHeartbeats 40000000
namespace Go.Proofs.YtagfilhbpnjhkaaGreatDoor.topSameUptoDone
open Go.Proofs.Q
open Go.ChangeShapes Go.WideShapes Go.ChangeAt Go.RowKit
open Go.ChangeMaps (open_string shut_string)
set_option linter.unusedVariables false
theorem own:ownKnob Tryz.prog.godebug=none:=by kernel_rfl
theorem laidOut:laidOutB Tryz.prog=true:=by kernel_rfl
set_option maxRecDepth 100000 in
theorem laid_met (os:Os) (args:Array Z):laidMet Tryz.prog Rows.topSameUptoRow.laid ((vo os).forCall (λ_ _=>0) ⟨#[],args,[]⟩).memory:=vy os args
set_option maxRecDepth 100000 in
theorem witness_row (os:Os) {c:Type} (enc:TypeId×Z->c) :
  (Rows.OpenSpec.upto Rows.topSameSpec).preRow enc Tryz.prog Tryz.f3 Rows.topSameUptoRow.domain false Rows.topSameUptoRow.laid ((vo os).forCall (λ_ _=>0) ⟨#[],#[.agg #[.slice none 0 0,.slice none 0 0,.slice none 0 0,.int .i64 0],.string ⟨#[]⟩,.int .i64 0,.slice none 0 0],[]⟩).memory #[.agg #[.slice none 0 0,.slice none 0 0,.slice none 0 0,.int .i64 0],.string ⟨#[]⟩,.int .i64 0,.slice none 0 0]:=by
 have hw:(DataW.whole enc Tryz.prog ((vo os).forCall (λ_ _=>0) ⟨#[],#[.agg #[.slice none 0 0,.slice none 0 0,.slice none 0 0,.int .i64 0],.string ⟨#[]⟩,.int .i64 0,.slice none 0 0],[]⟩).memory Tryz.f3.params.toList Rows.topSameSpec.vars false #[Value.agg #[.slice none 0 0,.slice none 0 0,.slice none 0 0,.int .i64 0],Value.string ⟨#[]⟩,Value.int .i64 0,Value.slice none 0 0].toList 8).map (λx=>(x.1,x.2.1)) =
   some ([.agg [.nil,.nil,.nil,.lit (.int .i64 0)],.lit (.string []),.lit (.int .i64 0),.nil],[]):=by kernel_rfl
 obtain ⟨⟨x1,x2,x3⟩,X,a⟩:=Option.map_eq_some_iff.1 hw
 simp only [Prod.mk.injEq] at a
 obtain ⟨rfl,rfl⟩:=a
 exact OpenSpec.preRow_of_cond 8 X (by kernel_rfl) (λk d=>by cases d;kernel_rfl) (by kernel_rfl) (laid_met os _)
set_option maxRecDepth 100000 in
theorem lifted (os:Os) (started:os.Started) (H':Type) (enc:TypeId×Z->H') (F':Stop.Interp) :
  ReturnsInHanded {} Tryz.checked os 3 .any ((Rows.OpenSpec.upto Rows.topSameSpec).preRow enc Tryz.prog Tryz.f3 Rows.topSameUptoRow.domain false Rows.topSameUptoRow.laid) (((Rows.OpenSpec.upto Rows.topSameSpec).at F').post enc Tryz.prog Tryz.f3 false true false false):=by
 refine returnsInHanded_of_row (C:=Tryz.checked) (s:=Rows.OpenSpec.upto Rows.topSameSpec) own started (by kernel_rfl) Tryz.func3
  (witness_row_at (enc:=enc) (C:=Tryz.checked) false (vo os) #[.agg #[.slice none 0 0,.slice none 0 0,.slice none 0 0,.int .i64 0],.string ⟨#[]⟩,.int .i64 0,.slice none 0 0] rfl (by kernel_rfl) (by kernel_rfl) (by kernel_rfl) (witness_row os enc)) ?_
 intro W base args ds gs before hval0 N _ hcond _ M u _
 have hval:∀ (j:Nat) t v,Tryz.f3.params[j]? = some t->args[j]? = some v->Value.okWide Tryz.prog W .any base t v:=hval0
 have o:=N
 obtain ⟨p,q,J,hV,rfl,hfz,hnd⟩:=N
 have hA:DataW.TrodAll enc Tryz.prog W 0 (λ_=>true) true Tryz.f3.params.toList args.toList ds p:=J
 rw [Tryz.params3] at hA hval
 obtain ⟨v0,vs0,d0,ds0,p0,q0,hargs,rfl,rfl,K,r0⟩:=trodAll_cons hA
 obtain ⟨v1,vs1,d1,ds1,p1,q1,rfl,rfl,rfl,Y,r1⟩:=trodAll_cons r0
 obtain ⟨v2,vs2,d2,ds2,p2,q2,rfl,rfl,rfl,I,r2⟩:=trodAll_cons r1
 obtain ⟨v3,vs3,d3,ds3,p3,q3,rfl,rfl,rfl,L,r3⟩:=trodAll_cons r2
 obtain ⟨rfl,rfl,rfl⟩:=trodAll_nil r3
 obtain rfl:args=#[v0,v1,v2,v3]:=by cases args;simp_all
 obtain ⟨rfl,rfl⟩:=trodVars_none hV
 obtain ⟨n,rfl⟩:∃ cs,v0=.agg cs:=by
  have X:=hval 0 24 v0 rfl rfl
  unfold Value.okWide at X
  rw [Tryz.underlying24] at X
  obtain ⟨cs,X,_⟩:=X
  exact ⟨cs,X⟩
 have P:=K
 have y:∀ x ∈ p0,x.block < W.heap.size:=by obtain ⟨m,hm⟩:=P;exact DataW.trod_lt m _ _ _ hm
 have B:Tr enc W 24 n.toList:=by obtain ⟨fuel,r⟩:=K;exact ⟨fuel,_,r⟩
 obtain ⟨g,d,i,f,e0,i0⟩:=b0r B
 obtain rfl:n=aY g d i f.most:=by rw [<- Array.toArray_toList (xs:=n),e0]
 obtain ⟨s1,rfl,rfl,rfl,R⟩:=open_string Tryz.underlying9 (hval 1 9 v1 rfl rfl) Y
 obtain ⟨a2,rfl,rfl,rfl,T⟩:=open_int Tryz.underlying3 (hval 2 3 v2 rfl rfl) I
 obtain ⟨a3,len3,cap3,rfl⟩:=okWide_slice Tryz.underlying25 (hval 3 25 v3 rfl rfl)
 have Q:=L
 have z:∀ x ∈ p3,x.block < W.heap.size:=by obtain ⟨m,hm⟩:=Q;exact DataW.trod_lt m _ _ _ hm
 obtain ⟨z3,w3⟩:∃ zs,xQ .u8 W a3 len3 cap3 zs:=by
  obtain ⟨fuel,r⟩:=L
  rcases open_ints Tryz.underlying25 Tryz.underlying5 (by kernel_rfl) r with ⟨a,_⟩ | ⟨x,l,c,zs,a,_,hl,hm,hz,_,hcell,w⟩
  ·simp [Value.cells] at a
   obtain ⟨rfl,rfl,rfl⟩:=a
   exact ⟨[],.inl ⟨rfl,rfl,rfl,rfl⟩⟩
  simp [Value.cells] at a
  obtain ⟨rfl,rfl,rfl⟩:=a
  exact ⟨zs,.inr ⟨_,rfl,hl,hm,by simpa using hz,hcell,w⟩⟩
 obtain ⟨l3,s3⟩:=w3.bytes
 clear J hval0
 have hbulk:=of_decide_eq_true (hcond _ rfl)
 simp only [List.append_nil,Rows.uptoBulkAll,Rows.uptoBulk] at hbulk
 have D:s1.size<=1048576:=by
  have e:s1.data.toList.length=s1.size:=Array.length_toList
  omega
 have htab:Env W:=⟨a6j M,a1Q u⟩
 have htab2:NE W:=ne_of M
 refine (topSame_walk f g d i s1 a2 (.slice a3 len3 cap3) l3 W i0 R T s3 D htab htab2).m λe W' ⟨he,k⟩=>?_
 subst he
 exact ⟨_,rfl,_,_,_,[],_,[],o,trodAll_mk1 (shut_bool Tryz.underlying4 _),(trodAll_cons_mk (Below.trod laidOut (by kernel_rfl) (of_decide_eq_true (by kernel_rfl)) P k y) (trodAll_cons_mk (shut_string Tryz.underlying9 R) (trodAll_cons_mk (shut_int Tryz.underlying3 T) (trodAll_cons_mk (Below.trod laidOut (by kernel_rfl) (of_decide_eq_true (by kernel_rfl)) Q k z) trodAll_mk0)))),rfl,k.frame _,λh=>by cases h⟩
theorem said:Rows.TopSameUptoSaid :=
 OpenClaim.holds_of_cond 3 Tryz.f3 rfl rfl rfl rfl rfl rfl rfl ⟨rfl,rfl,rfl,rfl,rfl⟩ rfl rfl rfl rfl rfl (by kernel_rfl) Tryz.func3 (by kernel_rfl)
  (of_decide_eq_true (by kernel_rfl)) (by unfold Func.isWrapper;first | (rw [if_pos (by decide +kernel)];kernel_rfl) | (rw [if_neg (by decide +kernel)];exact ⟨rfl,rfl⟩))
  (λos started c enc _ a=>by rw [OpenClaim.pre_eq_preRow];exact lifted os started c enc a)
theorem plain (f:FuncId) (fn:Func) (d:Tryz.pinned.checked.prog.funcNamed Rows.topSameUptoRow.func=some f) (a:Tryz.pinned.checked.prog.funcs[f]? = some fn) :
  false=Tryz.pinned.checked.prog.looks []/\∀ (j:Nat) t,fn.params[j]? = some t->Tryz.pinned.checked.prog.wantsStandIn t=false:=by
 obtain rfl:f=3:=Option.some.inj ((show Tryz.prog.funcNamed Rows.topSameUptoRow.func=some 3 by kernel_rfl).symm.trans d) |>.symm
 obtain rfl:fn=Tryz.f3:=(Option.some.inj (Tryz.func3.symm.trans a)).symm
 refine ⟨by kernel_rfl,λj t c=>?_⟩
 rw [Tryz.params3] at c
 have hm:t ∈ [24,9,3,25]:=by simpa using Array.mem_of_getElem? c
 simp only [List.mem_cons,List.not_mem_nil,or_false] at hm
 rcases hm with rfl | rfl | rfl | rfl
 ·exact (show Tryz.prog.wantsStandIn 24=false by kernel_rfl)
 ·exact (show Tryz.prog.wantsStandIn 9=false by kernel_rfl)
 ·exact (show Tryz.prog.wantsStandIn 3=false by kernel_rfl)
 exact (show Tryz.prog.wantsStandIn 25=false by kernel_rfl)
theorem proved:Rows.TopSameUptoCardSaid :=
 Claim7.holds_tied_plain_at .later [] _ _ _ _ said (λ_ h=>by cases h) (by kernel_rfl) (λ_ h=>by cases h) topSameUpto_row_tie rfl ⟨rfl,rfl⟩ (by kernel_rfl) rfl plain (by kernel_rfl)
#print axioms proved
end Go.Proofs.YtagfilhbpnjhkaaGreatDoor.topSameUptoDone

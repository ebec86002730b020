/-
 tamislaw TopLists: the statement,out of its walk: for every input the call returns true and leaves its arguments as they were.
-/
import Derived.Test.YthfkicfjlljjiaaGreatDoorLGTrH
import Derived.Test.YthfkicfjlljjiaaGreatDoorLMLawTL
import Derived.Test.YthfkicfjlljjiaaGreatDoorLGTrP
import Derived.Test.YthfkicfjlljjiaaGreatDoorLGRowAll
import Derived.Test.YthfkicfjlljjiaaGreatDoorLGFloA
set_option maxHeartbeats 40000000
namespace Go.Proofs.YthfkicfjlljjiaaGreatDoor.a16
open Go.ChangeShapes Go.WideShapes Go.ChangeAt Go.RowKit
open Go.ChangeMaps (open_string shut_string)
set_option linter.unusedVariables false
theorem own:ownKnob Tryz.prog.godebug=none:=by kernel_rfl
theorem laidOut:laidOutB Tryz.prog=true:=by kernel_rfl
theorem row_sl {k:IntKind} {w:H} {a:Option Addr} {len cap:Nat} {zs:List Int} (h:xQ k w a len cap zs):Sl w.heap.size w (.slice a len cap) ((zs.take len).map (Value.int k)):=by
 rcases h with ⟨rfl,rfl,rfl,rfl⟩ | ⟨x,rfl,hl,hm,hz,hcell,hwz⟩
 ·exact Sl.nil
 have hlen:((zs.take len).map (Value.int k)).length=len:=by rw [List.length_map,List.length_take];omega
 refine ⟨cap,by omega,hm,?_⟩
 by_cases h0:len=0
 ·subst h0
  exact .inl ⟨by simp,_,rfl⟩
 obtain ⟨b,off,spot⟩:=x
 have g:=hcell 0 (by omega)
 have hspot:spot=none:=by simpa [Addr.add] using World.cell?_spot g
 subst hspot
 refine .inr ⟨b,off,?_,by rw [hlen],λj i=>?_⟩
 ·have c:w.cell? ⟨b,off,none⟩=some (.int k (zs.getD 0 0)):=by simpa [Addr.add] using g
  rcases Nat.lt_or_ge b w.heap.size with f | d
  ·exact f
  simp [World.cell?,Array.getElem?_eq_none d] at c
 rw [hlen] at i
 have:=hcell j (by omega)
 rw [addr_add] at this
 rw [this]
 have e:j < zs.length:=by omega
 simp [List.getD_eq_getElem?_getD,List.getElem?_eq_getElem e]
theorem row_ints {w:H} {a:Option Addr} {len cap:Nat} {zs:List Int} (h:xQ .i64 w a len cap zs):∃ l:List Int,Sl w.heap.size w (.slice a len cap) (l.map (Value.int .i64))/\∀ n ∈ l,(Lit.int .i64 n).wf=true:=by
 refine ⟨zs.take len,row_sl h,λn e=>?_⟩
 have c:n ∈ zs:=List.mem_of_mem_take e
 rcases h with ⟨_,_,_,rfl⟩ | ⟨x,rfl,hl,hm,hz2,hcell,d⟩
 ·simp at c
 exact d n c
set_option maxRecDepth 100000 in
theorem b7w (os:Os) (args:Array Z):laidMet Tryz.prog Rows.topListsUptoRow.laid ((vo os).forCall (λ_ _=>0) ⟨#[],args,[]⟩).memory:=vy os args
set_option maxRecDepth 100000 in
theorem a17 (os:Os) {c:Type} (enc:TypeId×Z->c) :
  (Rows.OpenSpec.upto Rows.topListsSpec).preRow enc Tryz.prog Tryz.f3 Rows.topListsUptoRow.domain false Rows.topListsUptoRow.laid ((vo os).forCall (λ_ _=>0) ⟨#[],#[.agg #[.slice none 0 0,.slice none 0 0,.slice none 0 0,.int .i64 0],.string ⟨#[]⟩,.slice none 0 0,.slice none 0 0],[]⟩).memory #[.agg #[.slice none 0 0,.slice none 0 0,.slice none 0 0,.int .i64 0],.string ⟨#[]⟩,.slice none 0 0,.slice none 0 0]:=by
 have hw:(DataW.whole enc Tryz.prog ((vo os).forCall (λ_ _=>0) ⟨#[],#[.agg #[.slice none 0 0,.slice none 0 0,.slice none 0 0,.int .i64 0],.string ⟨#[]⟩,.slice none 0 0,.slice none 0 0],[]⟩).memory Tryz.f3.params.toList Rows.topListsSpec.vars false #[Value.agg #[.slice none 0 0,.slice none 0 0,.slice none 0 0,.int .i64 0],Value.string ⟨#[]⟩,Value.slice none 0 0,Value.slice none 0 0].toList 8).map (λx=>(x.1,x.2.1)) =
   some ([.agg [.nil,.nil,.nil,.lit (.int .i64 0)],.lit (.string []),.nil,.nil],[]):=by kernel_rfl
 obtain ⟨⟨x1,x2,x3⟩,X,a⟩:=Option.map_eq_some_iff.1 hw
 simp only [Prod.mk.injEq] at a
 obtain ⟨rfl,rfl⟩:=a
 exact OpenSpec.preRow_of_cond 8 X (by kernel_rfl) (λk d=>by cases d;kernel_rfl) (by kernel_rfl) (b7w os _)
set_option maxRecDepth 100000 in
theorem lifted (os:Os) (started:os.Started) (H':Type) (enc:TypeId×Z->H') (F':Stop.Interp) :
  ReturnsInHanded {} Tryz.checked os 3 .any ((Rows.OpenSpec.upto Rows.topListsSpec).preRow enc Tryz.prog Tryz.f3 Rows.topListsUptoRow.domain false Rows.topListsUptoRow.laid) (((Rows.OpenSpec.upto Rows.topListsSpec).at F').post enc Tryz.prog Tryz.f3 false true false false):=by
 refine returnsInHanded_of_row (C:=Tryz.checked) (s:=Rows.OpenSpec.upto Rows.topListsSpec) own started (by kernel_rfl) Tryz.func3
  (witness_row_at (enc:=enc) (C:=Tryz.checked) false (vo os) #[.agg #[.slice none 0 0,.slice none 0 0,.slice none 0 0,.int .i64 0],.string ⟨#[]⟩,.slice none 0 0,.slice none 0 0] rfl (by kernel_rfl) (by kernel_rfl) (by kernel_rfl) (a17 os enc)) ?_
 intro W base args ds gs before hval0 hW _ hcond _ T B _
 have hval:∀ (j:Nat) t v,Tryz.f3.params[j]? = some t->args[j]? = some v->Value.okWide Tryz.prog W .any base t v:=hval0
 have z:=hW
 obtain ⟨p,q,Q,hV,rfl,hfz,hnd⟩:=hW
 have hA:DataW.TrodAll enc Tryz.prog W 0 (λ_=>true) true Tryz.f3.params.toList args.toList ds p:=Q
 rw [Tryz.params3] at hA hval
 obtain ⟨v0,vs0,d0,ds0,p0,q0,hargs,rfl,rfl,h0,r0⟩:=trodAll_cons hA
 obtain ⟨v1,vs1,d1,ds1,p1,q1,rfl,rfl,rfl,Y,r1⟩:=trodAll_cons r0
 obtain ⟨v2,vs2,d2,ds2,p2,q2,rfl,rfl,rfl,I,r2⟩:=trodAll_cons r1
 obtain ⟨v3,vs3,d3,ds3,p3,q3,rfl,rfl,rfl,R,r3⟩:=trodAll_cons r2
 obtain ⟨rfl,rfl,rfl⟩:=trodAll_nil r3
 obtain rfl:args=#[v0,v1,v2,v3]:=by cases args;simp_all
 obtain ⟨rfl,rfl⟩:=trodVars_none hV
 obtain ⟨u,rfl⟩:∃ cs,v0=.agg cs:=by
  have X:=hval 0 24 v0 rfl rfl
  unfold Value.okWide at X
  rw [Tryz.underlying24] at X
  obtain ⟨cs,X,_⟩:=X
  exact ⟨cs,X⟩
 have k0:=h0
 have J:∀ x ∈ p0,x.block < W.heap.size:=by obtain ⟨m,hm⟩:=k0;exact DataW.trod_lt m _ _ _ hm
 have M:Tr enc W 24 u.toList:=by obtain ⟨fuel,g⟩:=h0;exact ⟨fuel,_,g⟩
 obtain ⟨n,i,o,k,e0,i0⟩:=b0r M
 obtain rfl:u=aY n i o k.most:=by rw [<- Array.toArray_toList (xs:=u),e0]
 obtain ⟨s1,rfl,rfl,rfl,w1⟩:=open_string Tryz.underlying9 (hval 1 9 v1 rfl rfl) Y
 obtain ⟨a2,len2,cap2,rfl⟩:=okWide_slice Tryz.underlying22 (hval 2 22 v2 rfl rfl)
 have k2:=I
 have K:∀ x ∈ p2,x.block < W.heap.size:=by obtain ⟨m,hm⟩:=k2;exact DataW.trod_lt m _ _ _ hm
 have N:Tr enc W 22 [.slice a2 len2 cap2]:=by obtain ⟨fuel,g⟩:=I;exact ⟨fuel,_,g⟩
 obtain ⟨x2,l2,e2,s2⟩:=A3 N
 obtain rfl:x2=.slice a2 len2 cap2:=by injection e2 with e _;exact e.symm
 obtain ⟨a3,f,d,rfl⟩:=okWide_slice Tryz.underlying25 (hval 3 25 v3 rfl rfl)
 have k3:=R
 have L:∀ x ∈ p3,x.block < W.heap.size:=by obtain ⟨m,hm⟩:=k3;exact DataW.trod_lt m _ _ _ hm
 obtain ⟨z3,w3⟩:∃ zs,xQ .i64 W a3 f d zs:=by
  obtain ⟨fuel,g⟩:=R
  rcases open_ints Tryz.underlying25 Tryz.underlying3 (by kernel_rfl) g with ⟨a,_⟩ | ⟨x,l,c,zs,a,_,hl,hm,hz,_,hcell,D⟩
  ·simp [Value.cells] at a
   obtain ⟨rfl,rfl,rfl⟩:=a
   exact ⟨[],.inl ⟨rfl,rfl,rfl,rfl⟩⟩
  simp [Value.cells] at a
  obtain ⟨rfl,rfl,rfl⟩:=a
  exact ⟨zs,.inr ⟨_,rfl,hl,hm,by simpa using hz,hcell,D⟩⟩
 obtain ⟨l3,s3,f3⟩:=row_ints w3
 clear Q hval0
 have w:=of_decide_eq_true (hcond _ rfl)
 simp only [List.append_nil,Rows.uptoBulkAll,Rows.uptoBulk] at w
 have P:s1.size<=1048576:=by
  have e:s1.data.toList.length=s1.size:=Array.length_toList
  omega
 have htab:Env W:=⟨a6j T,a1Q B⟩
 have y:NE W:=ne_of T
 refine (topLists_walk k n i o s1 (.slice a2 len2 cap2) l2 (.slice a3 f d) l3 W i0 w1 s2 s3 f3 P htab y).m λe W' ⟨he,r⟩=>?_
 subst he
 exact ⟨_,rfl,_,_,_,[],_,[],z,trodAll_mk1 (shut_bool Tryz.underlying4 _),(trodAll_cons_mk (Below.trod laidOut (by kernel_rfl) (of_decide_eq_true (by kernel_rfl)) k0 r J) (trodAll_cons_mk (shut_string Tryz.underlying9 w1) (trodAll_cons_mk (Below.trod laidOut (by kernel_rfl) (of_decide_eq_true (by kernel_rfl)) k2 r K) (trodAll_cons_mk (Below.trod laidOut (by kernel_rfl) (of_decide_eq_true (by kernel_rfl)) k3 r L) trodAll_mk0)))),rfl,r.frame _,λh=>by cases h⟩
theorem said:Rows.TopListsUptoSaid :=
 OpenClaim.holds_of_cond 3 Tryz.f3 rfl rfl rfl rfl rfl rfl rfl ⟨rfl,rfl,rfl,rfl,rfl⟩ rfl rfl rfl rfl rfl (by kernel_rfl) Tryz.func3 (by kernel_rfl)
  (of_decide_eq_true (by kernel_rfl)) (by unfold Func.isWrapper;first | (rw [if_pos (by decide +kernel)];kernel_rfl) | (rw [if_neg (by decide +kernel)];exact ⟨rfl,rfl⟩))
  (λos started c enc _ a=>by rw [OpenClaim.pre_eq_preRow];exact lifted os started c enc a)
theorem plain (f:FuncId) (fn:Func) (d:Tryz.pinned.checked.prog.funcNamed Rows.topListsUptoRow.func=some f) (a:Tryz.pinned.checked.prog.funcs[f]? = some fn) :
  false=Tryz.pinned.checked.prog.looks []/\∀ (j:Nat) t,fn.params[j]? = some t->Tryz.pinned.checked.prog.wantsStandIn t=false:=by
 obtain rfl:f=3:=Option.some.inj ((show Tryz.prog.funcNamed Rows.topListsUptoRow.func=some 3 by kernel_rfl).symm.trans d) |>.symm
 obtain rfl:fn=Tryz.f3:=(Option.some.inj (Tryz.func3.symm.trans a)).symm
 refine ⟨by kernel_rfl,λj t c=>?_⟩
 rw [Tryz.params3] at c
 have hm:t ∈ [24,9,22,25]:=by simpa using Array.mem_of_getElem? c
 simp only [List.mem_cons,List.not_mem_nil,or_false] at hm
 rcases hm with rfl | rfl | rfl | rfl
 ·exact (show Tryz.prog.wantsStandIn 24=false by kernel_rfl)
 ·exact (show Tryz.prog.wantsStandIn 9=false by kernel_rfl)
 ·exact (show Tryz.prog.wantsStandIn 22=false by kernel_rfl)
 exact (show Tryz.prog.wantsStandIn 25=false by kernel_rfl)
theorem proved:Rows.TopListsUptoCardSaid :=
 Claim7.holds_tied_plain_at .later [] _ _ _ _ said (λ_ h=>by cases h) (by kernel_rfl) (λ_ h=>by cases h) topListsUpto_row_tie rfl ⟨rfl,rfl⟩ (by kernel_rfl) rfl plain (by kernel_rfl)
#print axioms proved
end Go.Proofs.YthfkicfjlljjiaaGreatDoor.a16

/- Joined texts. -/
import Derived.ChangeArms
import Derived.Test.YthfkicfjlljjiaaGreatDoorGNumT
import Derived.Test.YthfkicfjlljjiaaGreatDoorGTrH
import Derived.Test.YthfkicfjlljjiaaGreatDoorGPolA
import Derived.WalkKit
import Derived.ProofKit
import Derived.OpenShut
import Derived.ShutString
import Derived.ChangeOld
import Derived.Below
import Derived.Test.YthfkicfjlljjiaaGreatDoorGBase
import Derived.Test.YthfkicfjlljjiaaGreatDoorMLaw26K
import Derived.Test.YthfkicfjlljjiaaGreatDoorGRowAll
import Derived.Test.YthfkicfjlljjiaaGreatDoorGFloA
set_option maxHeartbeats 40000000
namespace Go.Proofs.YthfkicfjlljjiaaGreatDoor
open Go.RowKit
set_option maxRecDepth 10000
section
variable {H':Type} {enc:TypeId×Z->H'} {w:H}
theorem Zh:Tryz.prog.cellsOf 9=1/\Tryz.prog.cellsOf 29=1/\Tryz.prog.cellsOf 30=8/\Tryz.prog.cellsOf 32=11/\Tryz.prog.cellsOf 34=23/\Tryz.prog.cellsOf 55=25/\Tryz.prog.cellsOf 50=2:=by
 refine ⟨?_,?_,?_,?_,?_,?_,?_⟩ <;> kernel_rfl
theorem Oq:Tryz.prog.cellsOf 3=1/\Tryz.prog.cellsOf 28=1/\Tryz.prog.cellsOf 4=1/\Tryz.prog.cellsOf 22=1/\Tryz.prog.cellsOf 48=1:=by
 refine ⟨?_,?_,?_,?_,?_⟩ <;> kernel_rfl
theorem A3 {cs:List Z} (h:Tr enc w 22 cs):∃ v l,cs=[v]/\Sl w.heap.size w v (List.map S l):=by
 rcases So Tryz.underlying22 h with rfl | ⟨a,len,cap,rfl,Y,I,f⟩
 ·exact ⟨_,[],rfl,Sl.nil⟩
 rw [Zh.1] at f
 have m:∀ i,i < len->∃ b:O,w.cell? (a.add i)=some (S b):=by
  intro i hi
  obtain ⟨ds,g,n,d⟩:=f i hi
  obtain ⟨b,rfl⟩:=MB Tryz.underlying9 d
  have:=n 0 (by omega)
  rw [Nat.mul_one] at this
  refine ⟨b,?_⟩
  have e:(a.add i).add 0=a.add i:=by simp [Addr.add]
  rw [e] at this
  exact this
 obtain ⟨l,g,k⟩:=sZ len m
 refine ⟨_,l,rfl,cap,by rw [List.length_map];omega,I,?_⟩
 by_cases h0:len=0
 ·left
  have:l=[]:=List.eq_nil_of_length_eq_zero (by omega)
  subst this
  exact ⟨rfl,some a,by rw [h0]⟩
 right
 obtain ⟨b,o,rfl,U⟩:=Ua (k 0 (by omega))
 refine ⟨b,o,U,by rw [List.length_map,g],λj p=>?_⟩
 have c:j < l.length:=by simpa using p
 have:=k j c
 rw [addr_add] at this
 rw [this]
 simp
theorem a93 {cs:List Z} (h:Tr enc w 34 cs):∃ A u,cs=cu A u/\gG u/\Sl w.heap.size w A (u.path.map S):=by
 obtain ⟨s,a⟩:=Sn Tryz.underlying34 h
 rw [Zh.2.2.2.2.1] at s
 have f0:Tr enc w 9 ((cs.drop 0).take (Tryz.prog.cellsOf 9)):=a 0 _ rfl
 have f1:Tr enc w 9 ((cs.drop 1).take (Tryz.prog.cellsOf 9)):=a 1 _ rfl
 have f2:Tr enc w 9 ((cs.drop 2).take (Tryz.prog.cellsOf 9)):=a 2 _ rfl
 have f3:Tr enc w 32 ((cs.drop 3).take (Tryz.prog.cellsOf 32)):=a 3 _ rfl
 have f4:Tr enc w 4 ((cs.drop 14).take (Tryz.prog.cellsOf 4)):=a 4 _ rfl
 have f5:Tr enc w 3 ((cs.drop 15).take (Tryz.prog.cellsOf 3)):=a 5 _ rfl
 have f6:Tr enc w 4 ((cs.drop 16).take (Tryz.prog.cellsOf 4)):=a 6 _ rfl
 have f7:Tr enc w 9 ((cs.drop 17).take (Tryz.prog.cellsOf 9)):=a 7 _ rfl
 have f8:Tr enc w 22 ((cs.drop 18).take (Tryz.prog.cellsOf 22)):=a 8 _ rfl
 have f9:Tr enc w 4 ((cs.drop 19).take (Tryz.prog.cellsOf 4)):=a 9 _ rfl
 have f10:Tr enc w 9 ((cs.drop 20).take (Tryz.prog.cellsOf 9)):=a 10 _ rfl
 have f11:Tr enc w 4 ((cs.drop 21).take (Tryz.prog.cellsOf 4)):=a 11 _ rfl
 have f12:Tr enc w 9 ((cs.drop 22).take (Tryz.prog.cellsOf 9)):=a 12 _ rfl
 rw [Zh.1] at f0
 rw [Zh.1] at f1
 rw [Zh.1] at f2
 rw [Zh.2.2.2.1] at f3
 rw [Oq.2.2.1] at f4
 rw [Oq.1] at f5
 rw [Oq.2.2.1] at f6
 rw [Zh.1] at f7
 rw [Oq.2.2.2.1] at f8
 rw [Oq.2.2.1] at f9
 rw [Zh.1] at f10
 rw [Oq.2.2.1] at f11
 rw [Zh.1] at f12
 match cs,s with
 | [a0,a1,a2,a3,a4,a5,a6,a7,a8,a9,a10,a11,a12,a13,a14,a15,a16,a17,a18,a19,a20,a21,a22],_ =>
  simp only [List.drop,List.take] at f0 f1 f2 f3 f4 f5 f6 f7 f8 f9 f10 f11 f12
  obtain ⟨aJ,e0⟩:=MB Tryz.underlying9 f0
  obtain ⟨usr,j⟩:=MB Tryz.underlying9 f1
  obtain ⟨er,k⟩:=MB Tryz.underlying9 f2
  obtain ⟨x,t,f⟩:=a1m f3
  obtain ⟨hp,l⟩:=a1i Tryz.underlying4 f4
  obtain ⟨C,m,g⟩:=a01 Tryz.underlying3 f5
  obtain ⟨z,n⟩:=a1i Tryz.underlying4 f6
  obtain ⟨v,o⟩:=MB Tryz.underlying9 f7
  obtain ⟨A,B,p,i⟩:=A3 f8
  obtain ⟨y,r⟩:=a1i Tryz.underlying4 f9
  obtain ⟨q,e10⟩:=MB Tryz.underlying9 f10
  obtain ⟨e,c⟩:=a1i Tryz.underlying4 f11
  obtain ⟨fr,d⟩:=MB Tryz.underlying9 f12
  refine ⟨A,⟨aJ,usr,er,x,hp,C,z,v,B,y,q,e,fr⟩,?_,⟨f,bounds_i64 g⟩,i⟩
  simp only [List.cons.injEq,and_true] at e0 j k l m n o p r e10 c d
  subst e0 j k l m n o p r e10 c d
  unfold cu
  simp only
  rw [<- t]
  rfl
theorem b7r {cs:List Z} (h:Tr enc w 55 cs):∃ A wv i,cs=bN A wv i/\gG i.url/\Sl w.heap.size w A (i.url.path.map S)/\Sl w.heap.size w wv (i.words.map S):=by
 obtain ⟨g,a⟩:=Sn Tryz.underlying55 h
 rw [Zh.2.2.2.2.2.1] at g
 have f0:Tr enc w 4 ((cs.drop 0).take (Tryz.prog.cellsOf 4)):=a 0 _ rfl
 have f1:Tr enc w 34 ((cs.drop 1).take (Tryz.prog.cellsOf 34)):=a 1 _ rfl
 have f2:Tr enc w 22 ((cs.drop 24).take (Tryz.prog.cellsOf 22)):=a 2 _ rfl
 rw [Oq.2.2.1] at f0
 rw [Zh.2.2.2.2.1] at f1
 rw [Oq.2.2.2.1] at f2
 match cs,g with
 | [a0,a1,a2,a3,a4,a5,a6,a7,a8,a9,a10,a11,a12,a13,a14,a15,a16,a17,a18,a19,a20,a21,a22,a23,a24],_ =>
  simp only [List.drop,List.take] at f0 f1 f2
  obtain ⟨rt,e0⟩:=a1i Tryz.underlying4 f0
  obtain ⟨A,u,j,c,d⟩:=a93 f1
  obtain ⟨wv,ws,f,e⟩:=A3 f2
  refine ⟨A,wv,⟨rt,u,ws⟩,?_,c,d,e⟩
  simp only [List.cons.injEq,and_true] at e0 f
  subst e0 f
  unfold bN
  simp only
  rw [<- j]
  rfl
theorem b6S {cs:List Z} (h:Tr enc w 48 cs):∃ v l,cs=[v]/\Items w.heap.size w v l:=by
 rcases So Tryz.underlying48 h with rfl | ⟨a,len,cap,rfl,Y,I,q⟩
 ·exact ⟨_,[],rfl,0,by simp,.inl ⟨rfl,_,rfl⟩⟩
 rw [Zh.2.2.2.2.2.1] at q
 have t:∀ i,i < len->∃ it:eu,∃ A wv,(∀ j v,(bN A wv it)[j]? = some v->w.cell? ((a.add (i*25)).add j)=some v)/\gG it.url/\Sl w.heap.size w A (it.url.path.map S)/\Sl w.heap.size w wv (it.words.map S):=by
  intro i hi
  obtain ⟨ds,r,u,p⟩:=q i hi
  obtain ⟨A,wv,it,rfl,f,g,m⟩:=b7r p
  refine ⟨it,A,wv,λj v d=>?_,f,g,m⟩
  have hjl:=(List.getElem?_eq_some_iff.1 d).1
  rw [u j (by omega)]
  exact d
 obtain ⟨l,r,s⟩:=sZ len t
 refine ⟨_,l,rfl,cap,by omega,?_⟩
 by_cases h0:len=0
 ·left
  have:l=[]:=List.eq_nil_of_length_eq_zero (by omega)
  subst this
  exact ⟨rfl,some a,by rw [h0]⟩
 right
 obtain ⟨A,wv,n,_,_,_⟩:=s 0 (by omega)
 have c:=n 0 _ rfl
 rw [Nat.zero_mul] at c
 have e:(a.add 0).add 0=a.add 0:=by simp [Addr.add]
 rw [e] at c
 obtain ⟨b,o,rfl,U⟩:=Ua c
 refine ⟨b,o,U,by rw [r],λk x=>?_⟩
 obtain ⟨A,wv,n,f,g,m⟩:=s k x
 refine ⟨A,wv,λj v d=>?_,f,g,m⟩
 have:=n j v d
 rw [addr_add,addr_add] at this
 exact this
theorem c1h {cs:List Z} (h:Tr enc w 50 cs):∃ v l d,cs=[v,S d]/\Items w.heap.size w v l:=by
 obtain ⟨c,a⟩:=Sn Tryz.underlying50 h
 rw [Zh.2.2.2.2.2.2] at c
 have f0:Tr enc w 48 ((cs.drop 0).take (Tryz.prog.cellsOf 48)):=a 0 _ rfl
 have f1:Tr enc w 9 ((cs.drop 1).take (Tryz.prog.cellsOf 9)):=a 1 _ rfl
 rw [Oq.2.2.2.2] at f0
 rw [Zh.1] at f1
 match cs,c with
 | [a0,a1],_ =>
  simp only [List.drop,List.take] at f0 f1
  obtain ⟨v,l,e0,hi⟩:=b6S f0
  obtain ⟨d,e1⟩:=MB Tryz.underlying9 f1
  exact ⟨v,l,d,by simp_all,hi⟩
end
end Go.Proofs.YthfkicfjlljjiaaGreatDoor
set_option maxHeartbeats 40000000
namespace Go.Proofs.YthfkicfjlljjiaaGreatDoor
open Go.RowKit
set_option maxRecDepth 10000
section
variable {H':Type} {enc:TypeId×Z->H'} {w:H}
theorem Ot:Tryz.prog.cellsOf 24=4:=by kernel_rfl
theorem b0r {cs:List Z} (h:Tr enc w 24 cs):∃ d c e p,cs=[d,c,e,Value.int .i64 (qh.most p)]/\BB w d c e p:=by
 obtain ⟨j,a⟩:=Sn Tryz.underlying24 h
 rw [Ot] at j
 have f0:Tr enc w 22 ((cs.drop 0).take (Tryz.prog.cellsOf 22)):=a 0 _ rfl
 have f1:Tr enc w 22 ((cs.drop 1).take (Tryz.prog.cellsOf 22)):=a 1 _ rfl
 have f2:Tr enc w 22 ((cs.drop 2).take (Tryz.prog.cellsOf 22)):=a 2 _ rfl
 have f3:Tr enc w 3 ((cs.drop 3).take (Tryz.prog.cellsOf 3)):=a 3 _ rfl
 rw [Oq.2.2.2.1] at f0 f1 f2
 rw [Oq.1] at f3
 match cs,j with
 | [a0,a1,a2,a3],_ =>
  simp only [List.drop,List.take] at f0 f1 f2 f3
  obtain ⟨d,k,e0,h0⟩:=A3 f0
  obtain ⟨c,l,f,Y⟩:=A3 f1
  obtain ⟨e,n,g,I⟩:=A3 f2
  obtain ⟨m,i,_⟩:=a01 Tryz.underlying3 f3
  refine ⟨d,c,e,⟨k,l,n,m⟩,?_,⟨h0,Y,I⟩⟩
  simp only [List.cons.injEq,and_true] at e0 f g i
  subst e0 f g i
  rfl
end
end Go.Proofs.YthfkicfjlljjiaaGreatDoor
set_option maxHeartbeats 40000000
namespace Go.Proofs.YthfkicfjlljjiaaGreatDoor.filterKeepsDone
open Go.ChangeShapes Go.WideShapes Go.ChangeAt Go.RowKit
open Go.ChangeMaps (open_string shut_string)
set_option linter.unusedVariables false
theorem own:ownKnob Tryz.prog.godebug=none:=by kernel_rfl
theorem laidOut:laidOutB Tryz.prog=true:=by kernel_rfl
set_option maxRecDepth 100000 in
theorem laid_met (os:Os) (args:Array Z):laidMet Tryz.prog Rows.filterKeepsRow.laid ((vo os).forCall (λ_ _=>0) ⟨#[],args,[]⟩).memory:=vy os args
set_option maxRecDepth 100000 in
theorem witness_row (os:Os) {H':Type} (enc:TypeId×Z->H') :
  (OpenSpec.ofChange Rows.filterKeepsSpec).preRow enc Tryz.prog Tryz.f4 Rows.filterKeepsRow.domain false Rows.filterKeepsRow.laid ((vo os).forCall (λ_ _=>0) ⟨#[],#[.agg #[.slice none 0 0,.slice none 0 0,.slice none 0 0,.int .i64 0],.int .i64 0,.agg #[.slice none 0 0,.string ⟨#[]⟩]],[]⟩).memory #[.agg #[.slice none 0 0,.slice none 0 0,.slice none 0 0,.int .i64 0],.int .i64 0,.agg #[.slice none 0 0,.string ⟨#[]⟩]]:=by
 have hw:(DataW.whole enc Tryz.prog ((vo os).forCall (λ_ _=>0) ⟨#[],#[.agg #[.slice none 0 0,.slice none 0 0,.slice none 0 0,.int .i64 0],.int .i64 0,.agg #[.slice none 0 0,.string ⟨#[]⟩]],[]⟩).memory Tryz.f4.params.toList Rows.filterKeepsSpec.vars false #[Value.agg #[.slice none 0 0,.slice none 0 0,.slice none 0 0,.int .i64 0],Value.int .i64 0,Value.agg #[.slice none 0 0,.string ⟨#[]⟩]].toList 8).map (λx=>(x.1,x.2.1)) =
   some ([.agg [.nil,.nil,.nil,.lit (.int .i64 0)],.lit (.int .i64 0),.agg [.nil,.lit (.string [])]],[]):=by kernel_rfl
 obtain ⟨⟨x1,x2,x3⟩,X,a⟩:=Option.map_eq_some_iff.1 hw
 simp only [Prod.mk.injEq] at a
 obtain ⟨rfl,rfl⟩:=a
 exact OpenSpec.preRow_of_cond 8 X (by kernel_rfl) (λk c=>by cases c) (by kernel_rfl) (laid_met os _)
set_option maxRecDepth 100000 in
theorem lifted (os:Os) (started:os.Started) (H':Type) (enc:TypeId×Z->H') (N:Stop.Interp) :
  ReturnsInHanded {} Tryz.checked os 4 .any ((OpenSpec.ofChange Rows.filterKeepsSpec).preRow enc Tryz.prog Tryz.f4 Rows.filterKeepsRow.domain false Rows.filterKeepsRow.laid) (((OpenSpec.ofChange Rows.filterKeepsSpec).at N).post enc Tryz.prog Tryz.f4 false true false false):=by
 refine returnsInHanded_of_row (C:=Tryz.checked) (s:=OpenSpec.ofChange Rows.filterKeepsSpec) own started (by kernel_rfl) Tryz.func4
  (witness_row_at (enc:=enc) (C:=Tryz.checked) false (vo os) #[.agg #[.slice none 0 0,.slice none 0 0,.slice none 0 0,.int .i64 0],.int .i64 0,.agg #[.slice none 0 0,.string ⟨#[]⟩]] rfl (by kernel_rfl) (by kernel_rfl) (by kernel_rfl) (witness_row os enc)) ?_
 intro W base args ds gs before hval0 J _ _ _ D o _
 have hval:∀ (j:Nat) t v,Tryz.f4.params[j]? = some t->args[j]? = some v->Value.okWide Tryz.prog W .any base t v:=hval0
 have l:=J
 obtain ⟨p,q,B,R,rfl,hfz,hnd⟩:=J
 have hA:DataW.TrodAll enc Tryz.prog W 0 (λ_=>true) true Tryz.f4.params.toList args.toList ds p:=B
 rw [Tryz.params4] at hA hval
 obtain ⟨v0,vs0,d0,ds0,p0,q0,hargs,rfl,rfl,h0,r0⟩:=trodAll_cons hA
 obtain ⟨v1,vs1,d1,ds1,p1,q1,rfl,rfl,rfl,Y,r1⟩:=trodAll_cons r0
 obtain ⟨v2,vs2,d2,ds2,p2,q2,rfl,rfl,rfl,I,r2⟩:=trodAll_cons r1
 obtain ⟨rfl,rfl,rfl⟩:=trodAll_nil r2
 obtain rfl:args=#[v0,v1,v2]:=by cases args;simp_all
 obtain ⟨rfl,rfl⟩:=trodVars_none R
 obtain ⟨i,rfl⟩:∃ cs,v0=.agg cs:=by
  have X:=hval 0 24 v0 rfl rfl
  unfold Value.okWide at X
  rw [Tryz.underlying24] at X
  obtain ⟨cs,X,_⟩:=X
  exact ⟨cs,X⟩
 have K:=h0
 have r:∀ x ∈ p0,x.block < W.heap.size:=by obtain ⟨m,hm⟩:=K;exact DataW.trod_lt m _ _ _ hm
 have y:Tr enc W 24 i.toList:=by obtain ⟨fuel,n⟩:=h0;exact ⟨fuel,_,n⟩
 obtain ⟨d,a,f,c,e0,i0⟩:=b0r y
 obtain rfl:i=aY d a f c.most:=by rw [<- Array.toArray_toList (xs:=i),e0]
 obtain ⟨P,rfl,rfl,rfl,w1⟩:=open_int Tryz.underlying3 (hval 1 3 v1 rfl rfl) Y
 obtain ⟨k,rfl⟩:∃ cs,v2=.agg cs:=by
  have X:=hval 2 50 v2 rfl rfl
  unfold Value.okWide at X
  rw [Tryz.underlying50] at X
  obtain ⟨cs,X,_⟩:=X
  exact ⟨cs,X⟩
 have L:=I
 have u:∀ x ∈ p2,x.block < W.heap.size:=by obtain ⟨m,hm⟩:=L;exact DataW.trod_lt m _ _ _ hm
 have z:Tr enc W 50 k.toList:=by obtain ⟨fuel,n⟩:=I;exact ⟨fuel,_,n⟩
 obtain ⟨M,T,g2,Q,i2⟩:=c1h z
 obtain rfl:k=#[M,S g2]:=by rw [<- Array.toArray_toList (xs:=k),Q]
 clear B hval0
 have htab:Env W:=⟨a6j D,a1Q o⟩
 have htab2:NE W:=ne_of D
 refine (filterKeeps_walk c d a f P M T g2 W i0 w1 i2 htab htab2).m λe W' ⟨he,g⟩=>?_
 subst he
 exact ⟨_,rfl,_,_,_,[],_,[],l,trodAll_mk1 (shut_bool Tryz.underlying4 _),(trodAll_cons_mk (Below.trod laidOut (by kernel_rfl) (of_decide_eq_true (by kernel_rfl)) K g r) (trodAll_cons_mk (shut_int Tryz.underlying3 w1) (trodAll_cons_mk (Below.trod laidOut (by kernel_rfl) (of_decide_eq_true (by kernel_rfl)) L g u) trodAll_mk0))),rfl,g.frame _,λh=>by cases h⟩
theorem said:Rows.FilterKeepsSaid :=
 OpenClaim.holds_of_cond 4 Tryz.f4 rfl rfl rfl rfl rfl rfl rfl ⟨rfl,rfl,rfl,rfl,rfl⟩ rfl rfl rfl rfl rfl (by kernel_rfl) Tryz.func4 (by kernel_rfl)
  (of_decide_eq_true (by kernel_rfl)) (by unfold Func.isWrapper;first | (rw [if_pos (by decide +kernel)];kernel_rfl) | (rw [if_neg (by decide +kernel)];exact ⟨rfl,rfl⟩))
  (λos started H' enc _ a=>by rw [OpenClaim.pre_eq_preRow];exact lifted os started H' enc a)
theorem plain (f:FuncId) (fn:Func) (d:Tryz.pinned.checked.prog.funcNamed Rows.filterKeepsRow.func=some f) (a:Tryz.pinned.checked.prog.funcs[f]? = some fn) :
  false=Tryz.pinned.checked.prog.looks []/\∀ (j:Nat) t,fn.params[j]? = some t->Tryz.pinned.checked.prog.wantsStandIn t=false:=by
 obtain rfl:f=4:=Option.some.inj ((show Tryz.prog.funcNamed Rows.filterKeepsRow.func=some 4 by kernel_rfl).symm.trans d) |>.symm
 obtain rfl:fn=Tryz.f4:=(Option.some.inj (Tryz.func4.symm.trans a)).symm
 refine ⟨by kernel_rfl,λj t c=>?_⟩
 rw [Tryz.params4] at c
 have hm:t ∈ [24,3,50]:=by simpa using Array.mem_of_getElem? c
 simp only [List.mem_cons,List.not_mem_nil,or_false] at hm
 rcases hm with rfl | rfl | rfl
 ·exact (show Tryz.prog.wantsStandIn 24=false by kernel_rfl)
 ·exact (show Tryz.prog.wantsStandIn 3=false by kernel_rfl)
 exact (show Tryz.prog.wantsStandIn 50=false by kernel_rfl)
theorem proved:Rows.FilterKeepsCardSaid :=
 Claim7.holds_tied_plain_at .later [] _ _ _ _ said (λ_ h=>by cases h) (by kernel_rfl) (λ_ h=>by cases h) filterKeeps_row_tie rfl ⟨rfl,rfl⟩ (by kernel_rfl) rfl plain (by kernel_rfl)
#print axioms proved
end Go.Proofs.YthfkicfjlljjiaaGreatDoor.filterKeepsDone

/-
 tamislaw TopImages: the statement,out of its walk: for every input the call returns true and leaves its arguments as they were.
-/
import Derived.Test.YtajblocgpkpmeaaGreatDoorSGTrP
import Derived.Test.YtajblocgpkpmeaaGreatDoorSMLawTI
import Derived.Test.YtajblocgpkpmeaaGreatDoorSGRowAll
import Derived.Test.YtajblocgpkpmeaaGreatDoorSGFloA
set_option maxHeartbeats 40000000
namespace Go.Proofs.YtajblocgpkpmeaaGreatDoor.topImagesUptoDone
open Go.ChangeShapes Go.WideShapes Go.ChangeAt Go.RowKit
open Go.ChangeMaps (open_string shut_string)
set_option linter.unusedVariables false
theorem own:ownKnob Tryz.prog.godebug=none:=by kernel_rfl
theorem laidOut:laidOutB Tryz.prog=true:=by kernel_rfl
theorem row_sl {k:IntKind} {w:H} {a:Option Addr} {len cap:Nat} {zs:List Int} (h:xQ k w a len cap zs):Sl w.heap.size w (.slice a len cap) ((zs.take len).map (Value.int k)):=by
 rcases h with ⟨rfl,rfl,rfl,rfl⟩ | ⟨x,rfl,hl,hm,hz,hcell,hwz⟩
 ·exact Sl.nil
 have hlen:((zs.take len).map (Value.int k)).length=len:=by rw [List.length_map,List.length_take];omega
 refine ⟨cap,by omega,hm,?_⟩
 by_cases h0:len=0
 ·subst h0
  exact .inl ⟨by simp,_,rfl⟩
 obtain ⟨b,off,spot⟩:=x
 have g:=hcell 0 (by omega)
 have hspot:spot=none:=by simpa [Addr.add] using World.cell?_spot g
 subst hspot
 refine .inr ⟨b,off,?_,by rw [hlen],λj i=>?_⟩
 ·have c:w.cell? ⟨b,off,none⟩=some (.int k (zs.getD 0 0)):=by simpa [Addr.add] using g
  rcases Nat.lt_or_ge b w.heap.size with f | d
  ·exact f
  simp [World.cell?,Array.getElem?_eq_none d] at c
 rw [hlen] at i
 have:=hcell j (by omega)
 rw [addr_add] at this
 rw [this]
 have e:j < zs.length:=by omega
 simp [List.getD_eq_getElem?_getD,List.getElem?_eq_getElem e]
theorem row_u8 {n:Int} (h:(Lit.int .u8 n).wf=true):0<=n/\n < 256:=by
 simp [Lit.wf,IntKind.min,IntKind.max,IntKind.signed,IntKind.bits] at h
 omega
theorem row_bytes {w:H} {a:Option Addr} {len cap:Nat} {zs:List Int} (h:xQ .u8 w a len cap zs):∃ l:O,Sl w.heap.size w (.slice a len cap) (Lib.byteCells l):=by
 have f:=row_sl h
 refine ⟨(zs.take len).map λz=>UInt8.ofNat z.toNat,?_⟩
 have e:Lib.byteCells ((zs.take len).map λz=>UInt8.ofNat z.toNat)=(zs.take len).map (Value.int .u8):=by
  unfold Lib.byteCells
  rw [List.map_map]
  refine List.map_congr_left λz g=>?_
  have c:z ∈ zs:=List.mem_of_mem_take g
  rcases h with ⟨_,_,_,rfl⟩ | ⟨x,rfl,hl,hm,hz2,hcell,d⟩
  ·simp at c
  have:=row_u8 (d z c)
  simp only [Function.comp,Value.int.injEq,true_and,UInt8.toNat_ofNat']
  omega
 rw [e]
 exact f
set_option maxRecDepth 100000 in
theorem b8n (os:Os) (args:Array Z):laidMet Tryz.prog Rows.topImagesUptoRow.laid ((vo os).forCall (λ_ _=>0) ⟨#[],args,[]⟩).memory:=vy os args
set_option maxRecDepth 100000 in
theorem a16 (os:Os) {c:Type} (enc:TypeId×Z->c) :
  (Rows.OpenSpec.upto Rows.topImagesSpec).preRow enc Tryz.prog Tryz.f5 Rows.topImagesUptoRow.domain false Rows.topImagesUptoRow.laid ((vo os).forCall (λ_ _=>0) ⟨#[],#[.agg #[.slice none 0 0,.slice none 0 0,.slice none 0 0,.int .i64 0],.string ⟨#[]⟩,.slice none 0 0,.float .f64 0,.float .f64 0],[]⟩).memory #[.agg #[.slice none 0 0,.slice none 0 0,.slice none 0 0,.int .i64 0],.string ⟨#[]⟩,.slice none 0 0,.float .f64 0,.float .f64 0]:=by
 have hw:(DataW.whole enc Tryz.prog ((vo os).forCall (λ_ _=>0) ⟨#[],#[.agg #[.slice none 0 0,.slice none 0 0,.slice none 0 0,.int .i64 0],.string ⟨#[]⟩,.slice none 0 0,.float .f64 0,.float .f64 0],[]⟩).memory Tryz.f5.params.toList Rows.topImagesSpec.vars false #[Value.agg #[.slice none 0 0,.slice none 0 0,.slice none 0 0,.int .i64 0],Value.string ⟨#[]⟩,Value.slice none 0 0,Value.float .f64 0,Value.float .f64 0].toList 8).map (λx=>(x.1,x.2.1)) =
   some ([.agg [.nil,.nil,.nil,.lit (.int .i64 0)],.lit (.string []),.nil,.lit (.float .f64 0),.lit (.float .f64 0)],[]):=by kernel_rfl
 obtain ⟨⟨x1,x2,x3⟩,X,a⟩:=Option.map_eq_some_iff.1 hw
 simp only [Prod.mk.injEq] at a
 obtain ⟨rfl,rfl⟩:=a
 exact OpenSpec.preRow_of_cond 8 X (by kernel_rfl) (λk d=>by cases d;kernel_rfl) (by kernel_rfl) (b8n os _)
set_option maxRecDepth 100000 in
theorem lifted (os:Os) (started:os.Started) (T:Type) (enc:TypeId×Z->T) (R:Stop.Interp) :
  ReturnsInHanded {} Tryz.checked os 5 .any ((Rows.OpenSpec.upto Rows.topImagesSpec).preRow enc Tryz.prog Tryz.f5 Rows.topImagesUptoRow.domain false Rows.topImagesUptoRow.laid) (((Rows.OpenSpec.upto Rows.topImagesSpec).at R).post enc Tryz.prog Tryz.f5 false true false false):=by
 refine returnsInHanded_of_row (C:=Tryz.checked) (s:=Rows.OpenSpec.upto Rows.topImagesSpec) own started (by kernel_rfl) Tryz.func5
  (witness_row_at (enc:=enc) (C:=Tryz.checked) false (vo os) #[.agg #[.slice none 0 0,.slice none 0 0,.slice none 0 0,.int .i64 0],.string ⟨#[]⟩,.slice none 0 0,.float .f64 0,.float .f64 0] rfl (by kernel_rfl) (by kernel_rfl) (by kernel_rfl) (a16 os enc)) ?_
 intro W base args ds gs before hval0 N _ hcond _ M y _
 have hval:∀ (j:Nat) t v,Tryz.f5.params[j]? = some t->args[j]? = some v->Value.okWide Tryz.prog W .any base t v:=hval0
 have u:=N
 obtain ⟨p,q,L,hV,rfl,hfz,hnd⟩:=N
 have hA:DataW.TrodAll enc Tryz.prog W 0 (λ_=>true) true Tryz.f5.params.toList args.toList ds p:=L
 rw [Tryz.params5] at hA hval
 obtain ⟨v0,vs0,d0,ds0,p0,q0,hargs,rfl,rfl,h0,r0⟩:=trodAll_cons hA
 obtain ⟨v1,vs1,d1,ds1,p1,q1,rfl,rfl,rfl,Y,r1⟩:=trodAll_cons r0
 obtain ⟨v2,vs2,d2,ds2,p2,q2,rfl,rfl,rfl,I,r2⟩:=trodAll_cons r1
 obtain ⟨v3,vs3,d3,ds3,p3,q3,rfl,rfl,rfl,h3,r3⟩:=trodAll_cons r2
 obtain ⟨v4,vs4,d4,ds4,p4,q4,rfl,rfl,rfl,h4,r4⟩:=trodAll_cons r3
 obtain ⟨rfl,rfl,rfl⟩:=trodAll_nil r4
 obtain rfl:args=#[v0,v1,v2,v3,v4]:=by cases args;simp_all
 obtain ⟨rfl,rfl⟩:=trodVars_none hV
 obtain ⟨n,rfl⟩:∃ cs,v0=.agg cs:=by
  have X:=hval 0 24 v0 rfl rfl
  unfold Value.okWide at X
  rw [Tryz.underlying24] at X
  obtain ⟨cs,X,_⟩:=X
  exact ⟨cs,X⟩
 have P:=h0
 have B:∀ x ∈ p0,x.block < W.heap.size:=by obtain ⟨m,hm⟩:=P;exact DataW.trod_lt m _ _ _ hm
 have J:Tr enc W 24 n.toList:=by obtain ⟨fuel,w⟩:=h0;exact ⟨fuel,_,w⟩
 obtain ⟨g,d,i,f,e0,i0⟩:=b0r J
 obtain rfl:n=aY g d i f.most:=by rw [<- Array.toArray_toList (xs:=n),e0]
 obtain ⟨s1,rfl,rfl,rfl,w1⟩:=open_string Tryz.underlying9 (hval 1 9 v1 rfl rfl) Y
 obtain ⟨a2,len2,cap2,rfl⟩:=okWide_slice Tryz.underlying46 (hval 2 46 v2 rfl rfl)
 have Q:=I
 have D:∀ x ∈ p2,x.block < W.heap.size:=by obtain ⟨m,hm⟩:=Q;exact DataW.trod_lt m _ _ _ hm
 obtain ⟨z2,w2⟩:∃ zs,xQ .u8 W a2 len2 cap2 zs:=by
  obtain ⟨fuel,w⟩:=I
  rcases open_ints Tryz.underlying46 Tryz.underlying5 (by kernel_rfl) w with ⟨a,_⟩ | ⟨x,l,c,zs,a,_,hl,hm,hz,_,hcell,z⟩
  ·simp [Value.cells] at a
   obtain ⟨rfl,rfl,rfl⟩:=a
   exact ⟨[],.inl ⟨rfl,rfl,rfl,rfl⟩⟩
  simp [Value.cells] at a
  obtain ⟨rfl,rfl,rfl⟩:=a
  exact ⟨zs,.inr ⟨_,rfl,hl,hm,by simpa using hz,hcell,z⟩⟩
 obtain ⟨l2,s2⟩:=row_bytes w2
 obtain ⟨a3,rfl,rfl,rfl,w3⟩:=open_float Tryz.underlying60 (hval 3 60 v3 rfl rfl) h3
 obtain ⟨a4,rfl,rfl,rfl,w4⟩:=open_float Tryz.underlying60 (hval 4 60 v4 rfl rfl) h4
 clear L hval0
 have o:=of_decide_eq_true (hcond _ rfl)
 simp only [List.append_nil,Rows.uptoBulkAll,Rows.uptoBulk] at o
 have K:s1.size<=1048576:=by
  have e:s1.data.toList.length=s1.size:=Array.length_toList
  omega
 have htab:Env W:=⟨a6j M,a1Q y⟩
 have r:NE W:=ne_of M
 refine (topImages_walk f g d i s1 (.slice a2 len2 cap2) l2 a3 a4 W i0 w1 s2 K htab r).m λe W' ⟨he,k⟩=>?_
 subst he
 exact ⟨_,rfl,_,_,_,[],_,[],u,trodAll_mk1 (shut_bool Tryz.underlying4 _),(trodAll_cons_mk (Below.trod laidOut (by kernel_rfl) (of_decide_eq_true (by kernel_rfl)) P k B) (trodAll_cons_mk (shut_string Tryz.underlying9 w1) (trodAll_cons_mk (Below.trod laidOut (by kernel_rfl) (of_decide_eq_true (by kernel_rfl)) Q k D) (trodAll_cons_mk (shut_float Tryz.underlying60 w3) (trodAll_cons_mk (shut_float Tryz.underlying60 w4) trodAll_mk0))))),rfl,k.frame _,λh=>by cases h⟩
theorem said:Rows.TopImagesUptoSaid :=
 OpenClaim.holds_of_cond 5 Tryz.f5 rfl rfl rfl rfl rfl rfl rfl ⟨rfl,rfl,rfl,rfl,rfl⟩ rfl rfl rfl rfl rfl (by kernel_rfl) Tryz.func5 (by kernel_rfl)
  (of_decide_eq_true (by kernel_rfl)) (by unfold Func.isWrapper;first | (rw [if_pos (by decide +kernel)];kernel_rfl) | (rw [if_neg (by decide +kernel)];exact ⟨rfl,rfl⟩))
  (λos started c enc _ a=>by rw [OpenClaim.pre_eq_preRow];exact lifted os started c enc a)
theorem plain (f:FuncId) (fn:Func) (d:Tryz.pinned.checked.prog.funcNamed Rows.topImagesUptoRow.func=some f) (a:Tryz.pinned.checked.prog.funcs[f]? = some fn) :
  false=Tryz.pinned.checked.prog.looks []/\∀ (j:Nat) t,fn.params[j]? = some t->Tryz.pinned.checked.prog.wantsStandIn t=false:=by
 obtain rfl:f=5:=Option.some.inj ((show Tryz.prog.funcNamed Rows.topImagesUptoRow.func=some 5 by kernel_rfl).symm.trans d) |>.symm
 obtain rfl:fn=Tryz.f5:=(Option.some.inj (Tryz.func5.symm.trans a)).symm
 refine ⟨by kernel_rfl,λj t c=>?_⟩
 rw [Tryz.params5] at c
 have hm:t ∈ [24,9,46,60,60]:=by simpa using Array.mem_of_getElem? c
 simp only [List.mem_cons,List.not_mem_nil,or_false] at hm
 rcases hm with rfl | rfl | rfl | rfl | rfl
 ·exact (show Tryz.prog.wantsStandIn 24=false by kernel_rfl)
 ·exact (show Tryz.prog.wantsStandIn 9=false by kernel_rfl)
 ·exact (show Tryz.prog.wantsStandIn 46=false by kernel_rfl)
 iterate 2
  ·exact (show Tryz.prog.wantsStandIn 60=false by kernel_rfl)
theorem proved:Rows.TopImagesUptoCardSaid :=
 Claim7.holds_tied_plain_at .later [] _ _ _ _ said (λ_ h=>by cases h) (by kernel_rfl) (λ_ h=>by cases h) topImagesUpto_row_tie rfl ⟨rfl,rfl⟩ (by kernel_rfl) rfl plain (by kernel_rfl)
#print axioms proved
end Go.Proofs.YtajblocgpkpmeaaGreatDoor.topImagesUptoDone

/- Joined texts. -/
import Derived.Lib.IndexLaws
import Derived.Lib.SlBuf
import Derived.Test.YtmndlfglgcioeaaGreatDoorEGRdsF
import Derived.Lib.SlBytesConst
import Derived.Test.YtmndlfglgcioeaaGreatDoorEMLaw24E
set_option maxHeartbeats 40000000
namespace Go.Proofs.YtmndlfglgcioeaaGreatDoor
open Tryz
open Go.RowKit
set_option maxRecDepth 10000
theorem vb:∀ l:Bytes,(l.count 0=0∧∀ x∈l,x≠0)∨∃ A B,l=A++0::B∧(∀x∈A,x≠0)∧Lib.indexByte l 0=(A.length:Nat)∧l.count 0=B.count 0+1
 | []=>.inl ⟨rfl,fun _ h=>(by cases h)⟩
 |x::r=>by
  by_cases hx:x=0
  ·subst hx
   exact .inr ⟨[],r,rfl,fun _ h=>(by cases h),by simp[Lib.indexByte],by rw[b4n]⟩
  rcases vb r with⟨h1,h2⟩|⟨A,B,rfl,h2,h3,h4⟩
  ·refine .inl ⟨by rw[yH hx];exact h1,fun y hy=>?_⟩
   rcases aj.mp hy with rfl|hy
   ·exact hx
   exact h2 y hy
  refine .inr ⟨x::A,B,rfl,fun y hy=>?_,?_,by rw[yH hx];exact h4⟩
  ·rcases aj.mp hy with rfl|hy
   ·exact hx
   exact h2 y hy
  rw[Lib.indexByte];have hb:(x==0)=false:=by simpa using hx
  rw[h3];simp only[hb,ag]
  split <;>first|omega|(simp_all;done)|skip
theorem Ai{raw A B:Bytes}{st:Nat}(h:raw.drop st=A++0::B)(hA:∀ x∈A,x≠0):dS (raw.take (st+A.length+1))=dS (raw.take st)++A++n7∧raw.drop (st+A.length+1)=B:=by
 have e1:raw.take (st+A.length+1)=raw.take st++(A++[0]):=by
  rw[tH,List.take_add,h]
  congr 1
  rw[show A++0::B=(A++[0])++B by simp,jo (by simp)]
 refine⟨?_,?_⟩
 ·rw[e1,sq,sq,nN hA,<-List.append_assoc]
  rfl
 rw[tH,<-List.drop_drop,h,show A++0::B=(A++[0])++B by simp,yt (by simp)]
theorem TX{raw:Bytes}{st:Nat}(h:∀ x∈raw.drop st,x≠0):dS raw=dS (raw.take st)++raw.drop st:=by
 conv=>lhs;rw[<-List.take_append_drop st raw]
 rw[sq,nN h]
theorem rg:∀ l:Bytes,(dS l).length=l.length+2*l.count 0
 | []=>rfl
 |x::r=>by
  show((if x=0 then n7 else [x])++dS r).length=_;rw[ae,rg r];by_cases hx:x=0
  ·subst hx
   rw[if_pos rfl,b4n];show 3+_=_+1+_;omega
  rw[if_neg hx,yH hx];simp only[ag,aN];omega
end Go.Proofs.YtmndlfglgcioeaaGreatDoor
set_option maxHeartbeats 40000000
namespace Go.Proofs.YtmndlfglgcioeaaGreatDoor
open Tryz
open Go.RowKit
set_option maxRecDepth 10000
theorem CS{w0 W:World}{h N:Nat}{acc:Bytes}(b:Lib.Buf w0 W h N acc):Lib.Buf w0 W.drew h N acc:=⟨b.below.drew,b.there,b.free,b.holds,b.fits⟩
theorem PF(w:World)(N:Nat):Lib.Buf w (w.alloc (.cells (madeCells #[.int .u8 0] (N*1)) 5)) w.heap.size N [] where
 below:=(Below.refl _ _).alloc (af _) _
 there:=fun j hj=>by
  rw[World.cell?_alloc_mark,df (by rw[size_madeCells];omega)];rfl
 free:=fun j _=>by
  have:=World.frozen?_alloc_mark w (madeCells #[.int .u8 0] (N*1)) 5 0 0 j;rw[this];simp
 holds:=fun j x hx=>by simp at hx
 fits:=aK _
def Fy(w:World)(b o:Nat)(l:Bytes):Prop:=∀ (i:Nat) x,l[i]? = some x->w.cell? ⟨b,o+i,none⟩=some (.int .u8 (x.toNat:Int))
theorem ZP{w:World}{b o:Nat}{l:Bytes}(h:At w b o (Lib.byteCells l)):Fy w b o l:=by
 intro i x hx;have hi:=(bf.1 hx).1;have:=h i (by rw[Lib.byteCells_length];exact hi);rw[this];simp only[Lib.byteCells,cR];rw[(bf.1 hx).2]
theorem CM{w:World}{b o:Nat}{l:Bytes}(h:Fy w b o l)(a:Addr)(ha:∀ i,a.add i=⟨b,o+i,none⟩)(c:Nat):Lib.HoldsBytes w (.slice (some a) l.length c) l :=
 ⟨some a,c,rfl,fun h=>(by cases h),fun a' e i x hx=>(by
  obtain rfl:=bp e;rw[ha];exact h i x hx)⟩
theorem vt{w:World}{b o:Nat}{l:Bytes}(h:Fy w b o l)(k:Nat):Fy w b (o+k) (l.drop k):=by
 intro i x hx;rw[fY]at hx;rw[tH];exact h (k+i) x hx
theorem Pr{w:World}{b o:Nat}{l:Bytes}(h:Fy w b o l)(k:Nat):Fy w b o (l.take k):=by
 intro i x hx;refine h i x ?_;rw[lE]at hx
 split at hx
 ·exact hx
 cases hx
theorem pU:prog.elem 50=5:=by kernel_rfl
theorem z9(w:World):(Go.sizeOf 5).run prog w=.ok 1 w:=by kernel_rfl
theorem ID:(prog.info? 5).map (·.size)=some 1:=by kernel_rfl
theorem YQ(b o L c k:Nat)(hk:k<L)(hc:L<=c)(W:World):(Instr.slice 50 (.slice (some ⟨b,o,none⟩) L c) (some (.int .i64 (k:Int))) none none).run prog W=.ok (.slice (some ⟨b,o+k,none⟩) (L-k) (c-k)) W:=by
 have ht:prog.underlying 50=some (.slice (prog.elem 50)):=by rw[pU];exact underlying50
 rw[run_slice_l W 50 _ _ _ ht .i64 _ (by omega) (by omega),pU,z9];have hne:¬ c=k:=by omega
 simp[Result.andThen,sliced,hne,addr_add]
theorem YP(b o L c k j:Nat)(hk:k<c)(hkj:k<=j)(hj:j<=c)(W:World):(Instr.slice 50 (.slice (some ⟨b,o,none⟩) L c) (some (.int .i64 (k:Int))) (some (.int .i64 (j:Int))) none).run prog W=.ok (.slice (some ⟨b,o+k,none⟩) (j-k) (c-k)) W:=by
 have ht:prog.underlying 50=some (.slice (prog.elem 50)):=by rw[pU];exact underlying50
 rw[run_slice_lh W 50 _ _ _ ht .i64 .i64 _ _ (by omega) (by omega) (by omega),pU,z9];have hne:¬ c=k:=by omega
 simp[Result.andThen,sliced,hne,addr_add]
theorem a1t{w:World}{b o L c k:Nat}{l:Bytes}(h:Fy w b o l)(hL:l.length=L)(hk:k<=L)(hc:L<=c):∃ fv,Lib.HoldsBytes w fv (l.drop k)∧∀ W,(Instr.slice 50 (.slice (some ⟨b,o,none⟩) L c) (some (.int .i64 (k:Int))) none none).run prog W=.ok fv W:=by
 rcases cZ k L with hlt|hge
 ·have hh:=CM (vt h k) ⟨b,o+k,none⟩ (fun i=>addr_add _ _ _) (c-k)
  rw[ah,hL]at hh;exact⟨_,hh,YQ b o L c k hlt hc⟩
 obtain rfl:k=L:=by omega
 have ht:prog.underlying 50=some (.slice (prog.elem 50)):=by rw[pU];exact underlying50
 have hd:l.drop k=[]:=by rw[<-hL,dJ]
 rw[hd];refine⟨.slice (some (if c=k then⟨b,o,none⟩else(⟨b,o,none⟩:Addr).add (k*1))) 0 (c-k),⟨_,c-k,rfl,fun _=>rfl,fun a _ i x hx=>(by simp at hx)⟩,fun W=>?_⟩;rw[run_slice_l W 50 _ _ _ ht .i64 _ (by omega) (by omega),pU,z9];simp only[Result.andThen,sliced]
 split <;>simp_all
def nums(l:Bytes):List Int:=l.map fun x=>(x.toNat:Int)
theorem zK(l:Bytes):(nums l).length=l.length:=am _
theorem ud(l:Bytes):Lib.bytesOf (nums l)=l:=by
 unfold Lib.bytesOf nums;rw[gP]
 conv=>rhs;rw[<-List.map_id l]
 exact eN fun x _=>by simp
theorem CN{w:World}{b o:Nat}{l:Bytes}(h:Fy w b o l)(a:Addr)(ha:∀ i,a.add i=⟨b,o+i,none⟩):∀ i,i<l.length->w.cell? (a.add i)=some (.int .u8 ((nums l).getD i 0)):=by
 intro i hi;rw[ha,h i l[i] (aJ hi)];simp[nums,List.getD,hi]
theorem FQ{w:World}{b o b2:Nat}{l:Bytes}(h:Fy w b o l)(c d:Nat)(hz:w.cell? ⟨b2,0,none⟩=some (.int .u8 0)) :
  bV prog 113 #[.slice (some ⟨b,o,none⟩) l.length c,.slice (some ⟨b2,0,none⟩) 1 d] w (.int .i64 (l.count 0:Nat)):=by
 have hc:=Any.bytes_Count_one_at laysBC ⟨b,o,none⟩ l.length c b2 0 d (nums l) 0 w (zK l) (CN h _ (fun i=>addr_add _ _ _)) hz;rw[ud]at hc;exact hc
theorem FX{w:World}{b o b2:Nat}{l:Bytes}(h:Fy w b o l)(c d:Nat)(hz:w.cell? ⟨b2,0,none⟩=some (.int .u8 0)) :
  bV prog 114 #[.slice (some ⟨b,o,none⟩) l.length c,.slice (some ⟨b2,0,none⟩) 1 d] w (.int .i64 (Lib.indexByte l 0)):=by
 have hc:=Any.bytes_Index_one_at laysBI ⟨b,o,none⟩ l.length c b2 0 d (nums l) 0 w (zK l) (CN h _ (fun i=>addr_add _ _ _)) hz;rw[ud]at hc;exact hc

theorem FS(c:Nat)(b2 d:Nat)(w:World)(hz:w.cell? ⟨b2,0,none⟩=some (.int .u8 0)) :
  bV prog 113 #[.slice none 0 c,.slice (some ⟨b2,0,none⟩) 1 d] w (.int .i64 0):=by
 go_enter func113,ntmps113
 go_wp2
 rw[run_callFunc_extern func145 (by kernel_rfl) (by kernel_rfl) (by kernel_rfl) (e:=Extern.BytealgCount.count) (by kernel_rfl),Lib.run_countNil w 0 c 0];simp only[Result.andThen];rw[Oper.upon_value]
 go_wp2
 go_ret;exact⟨rfl,rfl⟩
theorem Ik{B:Nat}{w:World}{v:Value}{l:Bytes}(h:Sl B w v (Lib.byteCells l)):(l=[]∧∃ a c,v=.slice a 0 c)∨∃ b o c,b<B∧l.length<=c∧v=.slice (some ⟨b,o,none⟩) l.length c∧Fy w b o l:=by
 obtain⟨c,hc,_,h⟩:=h;rw[Lib.byteCells_length]at hc;rcases h with⟨hn,a,rfl⟩|⟨b,o,hb,rfl,ha⟩
 ·exact .inl ⟨by simpa[Lib.byteCells]using hn,a,c,rfl⟩
 exact .inr ⟨b,o,c,hb,hc,by rw[Lib.byteCells_length],ZP ha⟩
theorem Fy.keep{w w':World}{b o:Nat}{l:Bytes}(h:Fy w b o l)(hk:w'.heap[b]? = w.heap[b]?):Fy w' b o l :=
 fun i x hx=>(World.cell?_of_block (w:=w) (a:=⟨b,o+i,none⟩) hk).trans (h i x hx)
theorem Lx{w:World}{v:Value}{l:Bytes}{b2:Nat}(h:Sl w.heap.size w v (Lib.byteCells l))(d:Nat)(hz:w.cell? ⟨b2,0,none⟩=some (.int .u8 0)) :
  bV prog 113 #[v,.slice (some ⟨b2,0,none⟩) 1 d] w (.int .i64 (l.count 0:Nat)):=by
 rcases Ik h with⟨rfl,a,c,rfl⟩|⟨b,o,c,_,_,rfl,hb⟩
 ·cases a with
  |none=>exact FS c b2 d w hz
  |some a=>exact Any.bytes_Count_one_at laysBC a 0 c b2 0 d [] 0 w rfl (fun i hi=>absurd hi (cg _)) hz
 exact FQ hb c d hz
theorem ZT{w W:World}{N:Nat}{acc:Bytes}(b:Lib.Buf w W w.heap.size N acc)(hN:acc.length=N)(hm:N<=maxLen):Sl W.heap.size W (.slice (some ⟨w.heap.size,0,none⟩) N N) (Lib.byteCells acc):=by
 refine⟨N,by rw[Lib.byteCells_length,hN];exact af _,hm,?_⟩;by_cases h0:N=0
 ·subst h0
  have:acc=[]:=ak hN;subst this;exact .inl ⟨rfl,_,rfl⟩
 refine .inr ⟨w.heap.size,0,?_,by rw[Lib.byteCells_length,hN],fun j hj=>?_⟩
 ·have:=b.there 0 (by omega)
  obtain⟨x,hx⟩:=tI.1 this;exact World.block_lt_of_cell? _ _ hx
 rw[Lib.byteCells_length]at hj;rw[bC,b.holds j acc[j] (aJ hj)];simp[Lib.byteCells]
theorem TY{l:Bytes}{st p:Nat}{A B:Bytes}(h:l.drop st=A++0::B)(hA:∀ x∈A,x≠0)(hp:A.length=p):(dS (l.take st)).length+p+3<=l.length+2*l.count 0:=by
 have h1:=(Ai h hA).1;have h2:=rg l
 have h3:(dS l).length=(dS (l.take (st+A.length+1))).length+(dS (l.drop (st+A.length+1))).length:=by
  rw[<-List.length_append,<-sq,cX]
 have h4:(dS (l.take (st+A.length+1))).length=(dS (l.take st)).length+p+3:=by
  rw[h1,ae,ae,hp];rfl
 omega
theorem Ay(l:Bytes)(v nv:Value)(b2 d:Nat)(w:World)(h:Sl w.heap.size w v (Lib.byteCells l))(hl:l.length<=900000000)(hz:w.cell? ⟨b2,0,none⟩=some (.int .u8 0))(hn:Lib.HoldsBytes w nv n7) :
  Calls prog 80 #[v,.slice (some ⟨b2,0,none⟩) 1 d,nv,.int .i64 (-1)] w fun e w'=>∃ v',e=.returned v'∧Sl w'.heap.size w' v' (Lib.byteCells (dS l))∧Below w.heap.size w w':=by
 obtain⟨i8,tT,Ch,mK,n9⟩:=info_parts j8;have XN:=h_ (Lx h d hz);have HNV:=h_ hn;obtain⟨pn,cn,hnv,_⟩:=hn;rw[show n7.length=3 from rfl]at hnv;subst hnv;obtain⟨R,hR⟩:=az (dS l);rw[<-hR];have HZ:=h_ hz;have hbz:b2<w.heap.size:=World.block_lt_of_cell? _ _ hz;rcases vb l with⟨h0,hne⟩|⟨A0,B0,QN,QM,a9r,a4x⟩
 ·have HR:=h_ (show R=l by rw[hR,nN hne])
  obtain⟨v',w1,hr,ho,hg,_⟩:=sF (P:=prog) w 50 50 5 i8 underlying50 tT Ch mK n9 (.slice none 0 0) 0 [] l (World.ownsRow_nil _ _ _ _) (by omega) w.heap.size v h;rw[h0]at XN;rw[bC,bJ]at ho;have HS:=h_ (Sl.dM ho);have HB:=h_ (show Below w.heap.size w w1 from⟨hg.os,hg.tape,hg.output,hg.size,fun k hk=>hg.block k hk (by simp[Value.ownBlock])⟩);have HRR:=h_ hr;clear hr ho hg h hR hz hne h0;go_enter func80,ntmps80
  go_wp2_with (first
   |(go_at_call 113;refine(XN.out).mono ?_;rintro e w2 ⟨rfl,hw⟩;subst w2)
   |(at_builtin;go_must (refine m9 rfl (.const (.slice none 0 0)) (.tmp 24) _ _ rfl _ _ _ _ rfl rfl HRR.out ?_))
   |fail)
  go_ret;exact⟨v',rfl,by rw[HR.out];exact HS.out,HB.out⟩
 rcases Ik h with⟨rfl,_⟩|⟨b,o,c,hb,hLc,rfl,hat⟩
 ·simp at QN
 obtain⟨L,hL⟩:=az (l.length);obtain⟨n,hn⟩:=az (l.count 0);have hn1:1<=n:=by omega
 have hnL:n<=L:=by rw[hn,hL];exact List.count_le_length
 obtain⟨N,hN⟩:=az (L+2*n);rw[<-hL]at hl hLc XN ⊢;rw[<-hn]at XN;obtain⟨m2,hm2⟩:∃ m:Nat,m=2*n:=⟨_,rfl⟩;have hw1:IntKind.i64.wrap ((n:Int)*2)=(m2:Int):=by rw[IntWalk.i64_in _ (by omega)];omega
 have hw2:IntKind.i64.wrap ((L:Int)+(m2:Int))=(N:Int):=by rw[IntWalk.i64_in _ (by omega)];omega
 have hmk:=run_make (P:=prog) w 50 5 i8 (.int .u8 0) underlying50 tT Ch .i64 .i64 (N:Int) (N:Int) (by omega) (lG _) (by rw[n9];omega) (by omega);rw[mK,eF]at hmk;have HBM:=h_ (PF w N);obtain⟨wm,hwm⟩:=az (w.alloc (.cells (madeCells #[.int .u8 0] (N*1)) 5));have a9B:(Instr.makeSlice 50 (.int .i64 (N:Int)) (.int .i64 (N:Int))).run prog w=.ok (.slice (some ⟨w.heap.size,0,none⟩) N N) wm:=by rw[hwm];exact hmk
 rw[<-hwm]at HBM;have hN3:N<=2700000000:=by omega
 have hN1:0<N:=by omega
 have hnz:((n:Int)==0)=false:=by simp;omega
 have b3Q:¬ (n:Int)=0:=by omega
 have HAT:=h_ hat;have HL:=h_ hL;have HN:=h_ hn;have Cr:=h_ hN;have HRR:=h_ hR;clear hmk hwm hm2 hat h hz hL hn hN hR QN QM a9r a4x;go_enter func80,ntmps80
 go_wp2_with (first
  |(go_at_call 113;refine(XN.out).mono ?_;rintro e w2 ⟨rfl,hw⟩;subst w2)
  |fail)
 clear a9B XN
 go_loopw [11,12,13,49] (fun wv sv _ iv wr=>∃ (k st a:Nat) (acc:Bytes),k<=n∧st<=L∧iv=.int .i64 k∧sv=.int .i64 st∧wv=.int .i64 a∧Hid (acc.length=a)∧Hid (acc=dS (l.take st))∧Hid ((l.drop st).count 0+k=n)∧Hid (Lib.Buf w wr w.heap.size N acc)) (fun _ _ _ i _=>n-(intOf i).toNat)
 case atStart=>exact⟨0,0,0,[],aK _,aK _,rfl,rfl,rfl,h_ rfl,h_ rfl,h_ (by rw[cU,<-HN.out];rfl),HBM⟩
 case round =>
  obtain⟨k,st,a,acc,hk,hst,rfl,rfl,rfl,HA,Y1,HC,HB⟩:=hrel;by_cases hkn:k<n
  ·rcases vb (l.drop st)with⟨h0,_⟩|⟨A,B,QN,QM,hix,hcnt⟩
   ·have:=HC.out;omega
   obtain⟨p,hp⟩:=az (A.length);have hfit:=TY QN QM hp.symm;have hstep:=Ai QN QM;have hdl:(l.drop st).length=L-st:=by rw[ah,HL.out]
   have hpl:p+1+B.length=L-st:=by rw[<-hdl,QN,hp];simp;omega
   have a4n:Fy _ b o l:=HAT.out.keep (HB.out.below.block b hb);have hzw:=(HB.out.below.cell (p:=⟨b2,0,none⟩) hbz).trans HZ.out;have XU:=FX (vt a4n st) (c-st) d hzw;rw[hdl,hix,<-hp]at XU;replace XU:=h_ XU
   have Lh:=h_ (show Lib.HoldsBytes w (.slice (some ⟨b,o+st,none⟩) A.length (c-st)) A by
    have e:A=(l.drop st).take A.length:=by rw[QN,jo rfl]
    have hh:=CM (Pr (vt HAT.out st) A.length) ⟨b,o+st,none⟩ (fun i=>addr_add _ _ _) (c-st);rw[<-e]at hh;exact hh)
   rw[<-Y1.out,HA.out,<-HL.out,<-HN.out,<-Cr.out]at hfit;have UJ:=h_ (show acc.length+A.length<=N by rw[HA.out,<-hp];omega);have HP:=h_ hp.symm;have hs1:=YQ b o L c st (by omega) hLc;have hs2:∀ W,(Instr.slice 50 (.slice (some ⟨w.heap.size,0,none⟩) N N) (some (.int .i64 (a:Int))) none none).run prog W=.ok (Lib.tailV w.heap.size N a) W:=fun W=>Lib.run_slice_tailV W 50 5 underlying50 z9 _ N a (by omega);obtain⟨j,hj⟩:=az (st+p);have hs3:=YP b o L c st j (by omega) (by omega) (by omega);rw[show j-st=p by omega]at hs3;obtain⟨a1,ha1⟩:=az (a+p);have hs4:∀ W,(Instr.slice 50 (.slice (some ⟨w.heap.size,0,none⟩) N N) (some (.int .i64 (a1:Int))) none none).run prog W=.ok (Lib.tailV w.heap.size N a1) W:=fun W=>Lib.run_slice_tailV W 50 5 underlying50 z9 _ N a1 (by omega);have hwj:IntKind.i64.wrap ((st:Int)+(p:Int))=(j:Int):=by rw[IntWalk.i64_in _ (by omega)];omega
   have Rh:IntKind.i64.wrap ((a:Int)+(p:Int))=(a1:Int):=by rw[IntWalk.i64_in _ (by omega)];omega
   obtain⟨a2,ha2⟩:=az (a1+3);have b3Y:IntKind.i64.wrap ((a1:Int)+3)=(a2:Int):=by rw[IntWalk.i64_in _ (by omega)];omega
   obtain⟨j1,hj1⟩:=az (j+1);have b30:IntKind.i64.wrap ((j:Int)+1)=(j1:Int):=by rw[IntWalk.i64_in _ (by omega)];omega
   have a2E:=h_ (show acc++A++n7=dS (l.take j1) by rw[Y1.out,hj1,hj,hp];exact hstep.1.symm)
   have Oa:=h_ (show(l.drop j1).count 0+(k+1)=n by
    have h2:=HC.out;rw[hcnt]at h2;rw[hj1,hj,hp,hstep.2];omega)
   have HLEN:=h_ (show(acc++A++n7).length=a2 by rw[ae,ae,HA.out,<-hp,ha2,ha1];rfl);have a9s:j1<=L:=by omega
   have OH:=h_ (show(acc++A).length=a1 by rw[ae,HA.out,<-hp,ha1]);have UI:=h_ (show(acc++A).length+n7.length<=N by rw[OH.out,show n7.length=3 from rfl];omega);clear hfit hstep hdl a4n hzw hix hcnt QN QM hp hj ha1 ha2 hj1 hpl
   go_upto_region 15 with(first
    |(go_at_call 114;refine(XU.out).mono ?_;rintro e w3 ⟨rfl,hw⟩;subst w3)
    |fail)
   refine wp_region_held_drew (S:=fun _=>True) (by kernel_rfl) (by exact trivial) (fun hHeld=>?_);refine tq 0 rfl ?_ (fun wS hSw=>?_) ?_;rotate_left
   ·(try dsimp only at hSw);go_simp;first|done|with_reducible rfl
   try simp only[Act.put,cE,cF,cG]
   refine tq 1 rfl ?_ (fun wS hSw=>?_) ?_;rotate_left
   ·(try dsimp only at hSw);go_simp;first|done|with_reducible rfl
   try simp only[Act.put,cE,cF,cG]
   refine tq 2 rfl ?_ (fun wS hSw=>?_) ?_;rotate_left
   ·(try dsimp only at hSw);go_simp;first|done|with_reducible rfl
   try simp only[Act.put,cE,cF,cG]
   refine tq 3 rfl ?_ (fun wS hSw=>?_) ?_;rotate_left
   ·(try dsimp only at hSw);go_simp;first|done|with_reducible rfl
   try simp only[Act.put,cE,cF,cG]
   refine tq 4 rfl ?_ (fun wS hSw=>?_) ?_;rotate_left
   ·(try dsimp only at hSw);go_simp;first|done|with_reducible rfl
   try simp only[Act.put,cE,cF,cG]
   refine tq 5 rfl ?_ (fun wS hSw=>?_) ?_;rotate_left
   ·(try dsimp only at hSw);go_simp;first|done|with_reducible rfl
   try simp only[Act.put,cE,cF,cG]
   refine tq 6 rfl ?_ (fun wS hSw=>?_) ?_;rotate_left
   ·(try dsimp only at hSw);go_simp;first|done|with_reducible rfl
   try simp only[Act.put,cE,cF,cG]
   refine tq 7 rfl ?_ (fun wS hSw=>?_) ?_;rotate_left
   ·(try dsimp only at hSw);go_simp;first|done|with_reducible rfl
   try simp only[Act.put,cE,cF,cG]
   refine rn 8 (by kernel_rfl) rfl (by rfl) (fun K hK=>?_);obtain⟨w2,hr2,B2⟩:=Lib.copy_part (P:=prog) w _ w.heap.size N acc A (.slice (some ⟨b,o+st,none⟩) A.length (c-st)) 50 3 5 underlying50 ID (af _) (CS HB.out) Lh.out UJ.out;rw[HP.out,HA.out]at hr2;refine Lib.wp_copy_run _ (.tmp 61) (.tmp 65) 50 50 rfl _ _ rfl rfl hr2 ?_;have HB2:=h_ B2;clear B2 hr2;refine hK.out _ _ ?_ (fun hHeld=>?_)
   ·exact trivial
   clear hK K
   try simp only[Act.put,cE,cF,cG]
   refine tq 9 rfl ?_ (fun wS hSw=>?_) ?_;rotate_left
   ·(try dsimp only at hSw);go_simp;first|done|with_reducible rfl
   try simp only[Act.put,cE,cF,cG]
   refine tq 10 rfl ?_ (fun wS hSw=>?_) ?_;rotate_left
   ·(try dsimp only at hSw);go_simp;first|done|with_reducible rfl
   try simp only[Act.put,cE,cF,cG]
   refine wpAnyH_done (by kernel_rfl) ?_ _;obtain⟨w3,hr3,B3⟩:=Lib.copy_part (P:=prog) w _ w.heap.size N (acc++A) n7 (.slice pn 3 cn) 50 3 5 underlying50 ID (af _) HB2.out HNV.out UI.out;rw[OH.out,show n7.length=3 from rfl]at hr3;have HB3:=h_ B3;have HR3:=h_ hr3;clear B3 hr3
   go_wp2_with (first
    |(refine Lib.wpList_copy_run _ rfl (.tmp 71) (.tmp 72) 50 50 rfl _ _ rfl rfl HR3.out ?_)
    |fail)
   go_roundw
   case rel=>exact⟨k+1,j1,a2,acc++A++n7,by omega,a9s,by go_num,rfl,rfl,HLEN,a2E,Oa,HB3⟩
   case measure=>simp[intOf];omega
  obtain rfl:k=n:=by omega
  rcases vb (l.drop st)with⟨_,hne⟩|⟨A,B,QN,QM,hix,hcnt⟩;rotate_left
  ·have:=HC.out;omega
  have yp:=h_ (show R=acc++l.drop st by rw[HRR.out,Y1.out];exact TX hne);have hRl:R.length=N:=by rw[HRR.out,rg,<-HN.out,<-HL.out,Cr.out]
  obtain⟨fv,hfv,hsf⟩:=a1t HAT.out HL.out.symm hst hLc;have hs2:∀ W,(Instr.slice 50 (.slice (some ⟨w.heap.size,0,none⟩) N N) (some (.int .i64 (a:Int))) none none).run prog W=.ok (Lib.tailV w.heap.size N a) W:=fun W=>Lib.run_slice_tailV W 50 5 underlying50 z9 _ N a (by have h1:=yp.out;rw[h1,ae,HA.out]at hRl;omega);have hs5:∀ W,(Instr.slice 50 (.slice (some ⟨w.heap.size,0,none⟩) N N) (some (.int .i64 0)) (some (.int .i64 (N:Int))) none).run prog W=.ok (.slice (some ⟨w.heap.size,0,none⟩) N N) W:=YP w.heap.size 0 N N 0 N hN1 (aK _) (af _);obtain⟨q,hq⟩:=az ((l.drop st).length);have haq:a+q=N:=by have h1:=yp.out;rw[h1,ae,HA.out,<-hq]at hRl;exact hRl
  have hwq:IntKind.i64.wrap ((a:Int)+(q:Int))=(N:Int):=by rw[IntWalk.i64_in _ (by omega)];omega
  have HFV:=h_ hfv;have HQ:=h_ hq.symm;have UJ:=h_ (show acc.length+(l.drop st).length<=N by rw[HA.out,<-hq];omega);have US:=h_ (show(acc++l.drop st).length=N by rw[<-yp.out];exact hRl);clear hfv hq hRl hne haq
  go_upto_region 28 with fail
  refine wp_region_held_drew (S:=fun _=>True) (by kernel_rfl) (by exact trivial) (fun hHeld=>?_);refine tq 0 rfl ?_ (fun wS hSw=>?_) ?_;rotate_left
  ·(try dsimp only at hSw);go_simp;first|done|with_reducible rfl
  try simp only[Act.put,cE,cF,cG]
  refine tq 1 rfl ?_ (fun wS hSw=>?_) ?_;rotate_left
  ·(try dsimp only at hSw);go_simp;first|done|with_reducible rfl
  try simp only[Act.put,cE,cF,cG]
  refine tq 2 rfl ?_ (fun wS hSw=>?_) ?_;rotate_left
  ·(try dsimp only at hSw);go_simp;first|done|with_reducible rfl
  try simp only[Act.put,cE,cF,cG]
  refine tq 3 rfl ?_ (fun wS hSw=>?_) ?_;rotate_left
  ·(try dsimp only at hSw);go_simp;first|done|with_reducible rfl
  try simp only[Act.put,cE,cF,cG]
  refine tq 4 rfl ?_ (fun wS hSw=>?_) ?_;rotate_left
  ·(try dsimp only at hSw);go_simp;first|done|with_reducible rfl
  try simp only[Act.put,cE,cF,cG]
  refine tq 5 rfl ?_ (fun wS hSw=>?_) ?_;rotate_left
  ·(try dsimp only at hSw);go_simp;first|done|with_reducible rfl
  try simp only[Act.put,cE,cF,cG]
  refine tq 6 rfl ?_ (fun wS hSw=>?_) ?_;rotate_left
  ·(try dsimp only at hSw);go_simp;first|done|with_reducible rfl
  try simp only[Act.put,cE,cF,cG]
  refine rn 7 (by kernel_rfl) rfl (by rfl) (fun K hK=>?_);obtain⟨w2,hr2,B2⟩:=Lib.copy_part (P:=prog) w _ w.heap.size N acc (l.drop st) fv 50 3 5 underlying50 ID (af _) (CS HB.out) HFV.out UJ.out;rw[HQ.out,HA.out]at hr2;refine Lib.wp_copy_run _ (.tmp 123) (.tmp 126) 50 50 rfl _ _ rfl rfl hr2 ?_;have HB2:=h_ B2;clear B2 hr2;refine hK.out _ _ ?_ (fun hHeld=>?_)
  ·exact trivial
  clear hK K
  try simp only[Act.put,cE,cF,cG]
  refine tq 8 rfl ?_ (fun wS hSw=>?_) ?_;rotate_left
  ·(try dsimp only at hSw);go_simp;first|done|with_reducible rfl
  try simp only[Act.put,cE,cF,cG]
  refine tq 9 rfl ?_ (fun wS hSw=>?_) ?_;rotate_left
  ·(try dsimp only at hSw);go_simp;first|done|with_reducible rfl
  try simp only[Act.put,cE,cF,cG]
  refine wpAnyH_done (by kernel_rfl) ?_ _
  go_wp2_with fail
  go_ret;exact⟨_,rfl,by rw[yp.out];exact ZT HB2.out US.out (by unfold maxLen;omega),HB2.out.below⟩
end Go.Proofs.YtmndlfglgcioeaaGreatDoor
set_option maxHeartbeats 40000000
namespace Go.Proofs.YtmndlfglgcioeaaGreatDoor
open Tryz
open Go.RowKit
set_option maxRecDepth 10000
theorem KD(l:Bytes)(w:World)(hl:l.length<=maxLen):∃ v' w',(convert 9 50 (S l)).run prog w=.ok v' w'∧Sl w'.heap.size w' v' (Lib.byteCells l)∧Lib.HoldsBytes w' v' l∧Below w.heap.size w w':=by
 have hr:=run_bytes_of_string (P:=prog) w 9 50 5 (bs l) underlying9 underlying50 underlying5;have hge:=grownCap_ge w (bs l).size 0 5;have hle:=grownCap_le_maxLen w (bs l).size 0 5 (by rw[aM];exact hl);obtain⟨cap,hcap⟩:=az (grownCap w (bs l).size 0 5);rw[<-hcap]at hr hge hle;rw[aM]at hge
 have hcell:∀ (fr:Nat×Nat) (i:Nat) x,l[i]? = some x->(w.drew.alloc (.cells (bytesRow (bs l) cap) 5 fr)).cell? ⟨w.heap.size,0+i,none⟩=some (.int .u8 (x.toNat:Int)):=by
  intro fr i x hx;have hi:=(bf.1 hx).1
  have h2:(bytesRow (bs l) cap)[i]? = some (.int .u8 (x.toNat:Int)):=by
   unfold bytesRow;rw[a1U (by simp;exact hi)]
   have h3:(bs l).data[i]? = some x:=by
    rw[<-Array.getElem?_toList,show(bs l).data.toList=l from dR l];exact hx
   simp[h3]
  rw[bC]
  have h4:(w.drew.alloc (.cells (bytesRow (bs l) cap) 5 fr)).heap[w.heap.size]? = some (.cells (bytesRow (bs l) cap) 5 fr):=by
   exact heap_alloc_new w.drew _
  unfold World.cell?;simp only[h4];exact h2
 rw[aM]at hr;refine⟨_,_,hr,?_,?_,(Below.refl _ _).drew.alloc (af _) _⟩
 ·refine⟨cap,by rw[Lib.byteCells_length];exact hge,hle,.inr ⟨w.heap.size,0,by simp,by rw[Lib.byteCells_length],fun j hj=>?_⟩⟩
  rw[Lib.byteCells_length]at hj;rw[hcell _ j l[j] (aJ hj)];simp[Lib.byteCells]
 refine⟨some ⟨w.heap.size,0,none⟩,cap,rfl,fun h=>(by cases h),fun a e i x hx=>?_⟩;obtain rfl:=bp e;rw[addr_add];exact hcell _ i x hx
section
variable {ops:Array Oper} {rest:List Oper} {o:Oper} {a:Act} {w:World} {Q:Exit->Act->World->Prop}
theorem PU(hg:o.guard=none)(src dst:TypeId)(x:Operand)(ho:o.op=.convert src dst x)(v:Value)(hx:a.eval x=v){v':Value}{w':World}(hr:(convert src dst v).run prog w=.ok v' w')(h:wpList prog ops Q rest (a.put o.dst v') w'):wpList prog ops Q (o::rest) a w:=by
 refine wpList_plain hg fun K hK=>?_;unfold Oper.wp execOp;simp only[ho,hx,Sem.run_bind,Sem.run_pure,Result.andThen_ok,hr];exact hK _ _ h
end
theorem uu(l:Bytes)(v nv:Value)(b2 d:Nat)(w:World)(h:Sl w.heap.size w v (Lib.byteCells l))(hl:l.length<=900000000)(hz:w.cell? ⟨b2,0,none⟩=some (.int .u8 0))(hn:Lib.HoldsBytes w nv n7) :
  Calls prog 44 #[v,.slice (some ⟨b2,0,none⟩) 1 d,nv] w fun e w'=>∃ v',e=.returned v'∧Sl w'.heap.size w' v' (Lib.byteCells (dS l))∧Below w.heap.size w w':=by
 have HR:=h_ (Ay l v nv b2 d w h hl hz hn);clear h hz hn;go_enter func44,ntmps44
 go_wp2_with (first
  |(go_at_call 80;refine(HR.out).mono ?_;rintro e w2 ⟨v2,rfl,hs2,hb2⟩;have HS2:=h_ hs2;have HB2:=h_ hb2;clear hs2 hb2)
  |fail)
 go_ret;exact⟨v2,rfl,HS2.out,HB2.out⟩
theorem Ny(w:World):iz prog 45 #[.int .i64 65533] w (S n7):=by
 have h:=gu 65533 w;rw[vS]at h;exact h
theorem NY(l:Bytes)(v:Value)(w:World)(h:Sl w.heap.size w v (Lib.byteCells l))(hl:l.length<=900000000)(hz:(dS l).length<=900000000)(hd:(kJ (dS l)).length<=900000000)(hE:Env w) :
  bN prog 17 #[v] w (S (oj l)):=by
 have HH:=h_ h;have HE:=h_ hE.1;have HLD:=h_ hd;have HLZ:=h_ hz;have HL:=h_ hl;obtain⟨R,hR⟩:=az (oj l);rw[<-hR];have HR:=h_ (show R=jl (kJ (dS l))from hR);have hbs:∀ W,(Instr.buildSlice 50 1 #[(0,.int .u8 0)]).run prog W=.ok (.slice (some ⟨W.heap.size,0,none⟩) 1 1) (W.alloc (.cells #[.int .u8 0] 5)):=fun W=>by kernel_rfl
 have BY:=h_ hbs;clear h hE hz hd hR hbs hl;go_enter func17,ntmps17
 go_upto_region 1 with fail
 have hz2:(w.alloc (.cells #[.int .u8 0] 5)).cell? ⟨w.heap.size,0,none⟩=some (.int .u8 0):=by rw[World.cell?_alloc_mark];rfl
 have hb2:Below w.heap.size w (w.alloc (.cells #[.int .u8 0] 5)):=(Below.refl _ _).alloc (af _) _;obtain⟨w2,hw2⟩:=az (w.alloc (.cells #[.int .u8 0] 5));rw[<-hw2]at hz2 hb2;obtain⟨nv,w3,hr3,_,JP,hb3⟩:=KD n7 w2 (by decide);have hz3:=(hb3.cell (p:=⟨w.heap.size,0,none⟩) (World.block_lt_of_cell? _ _ hz2)).trans hz2;have V5:=hb2.trans (hb3.mono hb2.size);have dH:=h_ (uu l v nv w.heap.size 1 w3 ((HH.out.below V5).more V5.size) HL.out hz3 JP);have HB3:=h_ V5;have HW2:=h_ hw2;have HR3:=h_ hr3;clear hz3 V5 hb3 JP hr3 hz2 hb2 hw2
 go_upto_region 2 with(first
  |(refine yS rfl 50 1 #[(0,.const (.int .u8 0))] rfl (.slice (some ⟨w.heap.size,0,none⟩) 1 1) w2 #[(0,.int .u8 0)] (by simp only[nQ,dw,yl];rfl) (by rw[HW2.out];exact BY.out w) ?_)
  |(go_at_call 45;refine(Ny _).mono ?_;rintro e w4 ⟨rfl,hw4⟩;subst w4)
  |(refine PU rfl 9 50 (.tmp 5) rfl _ rfl HR3.out ?_)
  |(go_at_call 44;refine(dH.out).mono ?_;rintro e w4 ⟨v4,rfl,hs4,hb4⟩;have HS4:=h_ hs4;have eM:=h_ (HB3.out.trans (hb4.mono HB3.out.size));clear hs4 hb4)
  |fail)
 clear dH HR3 HW2 BY
 go_wp2_with (first
  |(go_at_call 20;refine(vF (dS l) v4 _ HS4.out (ap HLZ.out (by decide)) (HE.out.below eM.out)).mono ?_;rintro e w5 ⟨rfl,hb5⟩;have gH:=h_ (eM.out.trans (hb5.mono eM.out.size));clear hb5)
  |(go_at_call 46;refine(tO (kJ (dS l)) _ HLD.out).mono ?_;rintro e w6 ⟨rfl,hb6⟩;have jM:=h_ (gH.out.trans (hb6.mono gH.out.size));clear hb6)
  |fail)
 go_ret;exact⟨by rw[HR.out];rfl,jM.out⟩
end Go.Proofs.YtmndlfglgcioeaaGreatDoor
set_option maxHeartbeats 40000000
namespace Go.Proofs.YtmndlfglgcioeaaGreatDoor
open Tryz
open Go.RowKit
set_option maxRecDepth 10000
structure a3o (kind:Int) (s:Bytes):Prop where
 l:s.length<=900000000
 u:∀ c∈iG s,c.url.length<=1048576
 s:kind≠2->s.length<=1000000
theorem MC(kind:Int)(bu:Url)(bv:Value)(s:Bytes)(w:World)(h8:bu.host.six.length=8)(hbv:Sl w.heap.size w bv (bu.path.map S))(hbs:Bs bu.path)(hs:a3o kind s)(hE:Env w) :
  Calls prog 11 #[.int .i64 kind,.agg (ai bv bu),.string (bs s)] w (kt w (fK kind bu s)):=by
 by_cases h1:kind=1
 ·subst h1
  exact ME bu bv s w h8 hbv hbs (ap (hs.s (by decide)) (by decide)) hE
 by_cases h2:kind=2
 ·subst h2
  exact GY bu bv s w h8 hbv hbs hs.l hs.u hE
 by_cases h3:kind=3
 ·subst h3
  cases hr:xu s with
  |none=>exact MD s hr bu bv w h8 hbv hbs (hs.s (by decide)) hE
  |some r =>
   obtain⟨dl,h,ur⟩:=r;cases h with
   |true=>exact MG s dl ur hr bu bv w h8 hbv hbs (hs.s (by decide)) hE
   |false=>exact GX s dl ur hr bu bv w h8 hbv hbs (hs.s (by decide)) hE
 have:fK kind bu s=⟨[],[]⟩:=by unfold fK;rw[if_neg h1,if_neg h2,if_neg h3]
 rw[this];exact DY kind h1 h2 h3 bu bv (bs s) w
theorem a53(w:World)(bv:Value)(u:Url):∃ W,(w.alloc (.cells (ai bv u) 30)).alloc (.cells (bI aR []) 35)=W∧CB W w.heap.size 30 (ai bv u)∧OB w (w.heap.size+1) 35 (bI aR []) W:=by
 have hx:=CB.new w 30 (ai bv u);have hb:=(Below.refl w.heap.size w).alloc (af _) (.cells (ai bv u) 30);obtain⟨w1,hw1⟩:=az (w.alloc (.cells (ai bv u) 30));have hz1:w1.heap.size=w.heap.size+1:=by rw[hw1];simp
 rw[<-hw1]at hx hb ⊢;have hy:=CB.new w1 35 (bI aR []);have hb2:=(Below.refl w1.heap.size w1).alloc (af _) (.cells (bI aR []) 35);rw[hz1]at hy;exact⟨_,rfl,hx.keep hb2,OB.of hy (gQ _) (iK hb hb2)⟩
theorem S2{v:Value}{d:Bytes}(h1:v.oneCell'=true):∀ u ∈ [v,S d],u.oneCell'=true:=by
 intro u hu;simp only[aj,bl,or_false]at hu;rcases hu with rfl|rfl
 ·exact h1
 rfl
structure Ve (kind:Int) (l:Bytes):Prop where
 n:l.length<=900000000
 z:(dS l).length<=900000000
 d:(kJ (dS l)).length<=900000000
 r:a3o kind (oj l)
theorem XD{l:Bytes}(kind:Int)(hl:l.length<=10000):Ve kind l:=by
 have h1:=yi l;have h2:=oD _ (dS l) (af _);have h3:=u5 _ (kJ (dS l)) (af _)
 have hvl:(oj l).length<=1000000:=by
  unfold oj;omega
 exact⟨by omega,by omega,by omega,by omega,fun c hc=>ap ((pQ _).2 c hc).1 (by omega),fun _=>hvl⟩
theorem ua(kind:Int)(bu:Url)(bv:Value)(l:Bytes)(v:Value)(w:World)(h8:bu.host.six.length=8)(hbv:Sl w.heap.size w bv (bu.path.map S))(hbs:Bs bu.path)(h:Sl w.heap.size w v (Lib.byteCells l))(hl:Ve kind l)(hE:Env w) :
  Calls prog 19 #[.int .i64 kind,.agg (ai bv bu),v] w (kt w (fK kind bu (oj l))):=by
 obtain⟨R,hR⟩:=az (fK kind bu (oj l));obtain⟨t,ht⟩:=az (bs (oj l));have HVA:=h_ (fun W (hb:Below w.heap.size w W)=>(show bN prog 17 #[v] W (.string t)from by rw[ht];exact NY l v W ((h.below hb).more hb.size) hl.n hl.z hl.d (hE.below hb)));have HIT:=h_ (fun W (hb:Below w.heap.size w W)=>(show Calls prog 11 #[.int .i64 kind,.agg (ai bv bu),.string t] W (kt W R)from by rw[ht,hR];exact MC kind bu bv (oj l) W h8 ((hbv.below hb).more hb.size) hbs hl.r (hE.below hb)));have H8:=h_ h8;have HUI:=h_ (show(prog.info? 30).map (·.size)=some (ai bv bu).size by rw[jX h8];exact iI);rw[<-hR];clear hR ht h8 hbv hbs h hl hE;obtain⟨W2,hw2,k1,k2⟩:=a53 w bv bu;have K1:=h_ k1;have K2:=h_ k2;have HW2:=h_ hw2;clear k1 k2 hw2;go_enter func19,ntmps19
 go_upto_region 1 with(first
  |((with_reducible refine ig ?_);refine aS rfl 35 rfl _ _ (tK _) ?_)
  |fail)
 rw[HW2.out];have C1:=h_ (K1.out.keep (bH (bz _)));have I1:=h_ (K2.out.below (bH (bz _)));refine wp_region_held_drew (S:=fun W=>CB W w.heap.size 30 (ai bv bu)) (by kernel_rfl) (by with_reducible first|exact C5.out|exact C4.out|exact C3.out|exact C2.out|exact C1.out) (fun hHeld=>?_);refine tq 0 rfl ?_ (fun wS hSw=>?_) ?_;rotate_left
 ·(try dsimp only at hSw);go_simp;first|done|with_reducible rfl
 try simp only[Act.put,cE,cF,cG]
 refine tq 1 rfl ?_ (fun wS hSw=>?_) ?_;rotate_left
 ·(try dsimp only at hSw)
  refine iW 30 (.tmp 4) ?_ w.heap.size (ai bv bu) _ underlying30 rfl HUI.out ?_ ?_
  ·rfl
  ·rfl
  exact hSw
 try simp only[Act.put,cE,cF,cG]
 refine tq 2 rfl ?_ (fun wS hSw=>?_) ?_;rotate_left
 ·(try dsimp only at hSw);go_simp;first|done|with_reducible rfl
 try simp only[Act.put,cE,cF,cG]
 refine rn 3 (by kernel_rfl) rfl (by rfl) (fun K hK=>?_)
 go_simp
 refine(HVA.out _ I1.out.bL).mono ?_;rintro e w2 ⟨rfl,hb⟩;have C2:=h_ (C1.out.keep hb);have I2:=h_ (I1.out.below hb);clear hb;refine hK.out _ _ ?_ (fun hHeld=>?_)
 ·with_reducible first|exact C5.out|exact C4.out|exact C3.out|exact C2.out|exact C1.out
 clear hK K
 try simp only[Act.put,cE,cF,cG]
 refine rn 4 (by kernel_rfl) rfl (by rfl) (fun K hK=>?_)
 go_simp
 refine(HIT.out _ I2.out.bL).mono ?_;rintro e w3 ⟨v3,rfl,ir,hb⟩;have C3:=h_ (C2.out.keep hb);have I3:=h_ (I2.out.below hb);have IR3:=h_ ir;clear hb ir;refine hK.out _ _ ?_ (fun hHeld=>?_)
 ·with_reducible first|exact C5.out|exact C4.out|exact C3.out|exact C2.out|exact C1.out
 clear hK K
 try simp only[Act.put,cE,cF,cG]
 refine rn 5 (by kernel_rfl) rfl (by rfl) (fun K hK=>?_);refine lW 35 (.tmp 6) (.tmp 11) rfl w (w.heap.size+1) 35 (bI aR []) I3.out 0 [v3,S R.delay] rfl rfl (bR rfl) pO (S2 (fS.one' IR3.out)) (bI v3 R.delay) rfl ?_;intro w5 i5 t5;have I5:=h_ i5;have C5:=h_ (t5.cb C3.out (cV (bO _)));have IR5:=h_ (IR3.out.tn t5 I2.out.lt);clear i5 t5;refine hK.out _ _ ?_ (fun hHeld=>?_)
 ·with_reducible first|exact C5.out|exact C4.out|exact C3.out|exact C2.out|exact C1.out
 clear hK K
 try simp only[Act.put]
 refine wpAnyH_done (by kernel_rfl) ?_ _
 go_wp2_with fail
 exact xq results19 rfl I5.out ⟨v3,rfl,IR5.out.base I2.out.bL.size,I5.out.bL⟩
theorem Ew(kind:Int)(bu:Url)(bv:Value)(l:Bytes)(v:Value)(w:World)(h8:bu.host.six.length=8)(hbv:Sl w.heap.size w bv (bu.path.map S))(hbs:Bs bu.path)(h:Sl w.heap.size w v (Lib.byteCells l))(hl:l.length<=10000)(hE:Env w) :
  Calls prog 19 #[.int .i64 kind,.agg (ai bv bu),v] w (kt w (fK kind bu (oj l))):=ua kind bu bv l v w h8 hbv hbs h (XD kind hl) hE
end Go.Proofs.YtmndlfglgcioeaaGreatDoor
set_option maxHeartbeats 40000000
namespace Go.Proofs.YtmndlfglgcioeaaGreatDoor
open Tryz
open Go.RowKit
set_option maxRecDepth 10000
theorem fS.open{W:World}{base:Nat}{v:Value}{l:List eG}(c:fS W base v l)(hl:l ≠ []):∃ g cap,v=.slice (some ⟨g,0,none⟩) l.length cap∧base<=g∧∀ k (hk:k<l.length),∃pv wv,
  (∀j x,(aO pv wv l[k])[j]? = some x->W.cell? ⟨g,k*25+j,none⟩=some x)∧mw W base ((pv,wv),l[k]):=by
 obtain⟨ps,rfl,h2,h3⟩:=c;rcases h2.2 with⟨rfl,h0⟩|⟨g,cap,cur,rfl,hg,_⟩
 ·have:ps=[]:=ak h0
  subst this;exact absurd rfl hl
 refine⟨g,cap,by rw[am],hg,fun k hk=>?_⟩;have hk':k<ps.length:=by simpa using hk
 have hp:=h3 ps[k] (bw hk');refine⟨ps[k].1.1,ps[k].1.2,fun j x hj=>?_,?_⟩
 ·rw[cR]at hj
  have a0w:j<25:=by
   have:=(bf.1 hj).1;rw[lU hp.six]at this;exact this
  have hf:=u6 ipc 25 ps (fun p hp=>lU (h3 p hp).six) k j hk' a0w;have:=h2.cells (g:=g) rfl (k*25+j) x (hf.trans hj);rw[addr_add,bC]at this;exact this
 rw[cR];exact hp
theorem Rz{pv wv:Value}{i:eG}(h:i.url.host.six.length=8):(aO pv wv i)[24]? = some wv:=by
 unfold aO;rw[cC,cu (by rw[pm h];omega),pm h];rfl
theorem GV{pv wv:Value}{i:eG}{j:Nat}{x:Value}(h:(aV pv i.url)[j]? = some x):(aO pv wv i)[1+j]? = some x:=by
 have hl:=(bf.1 h).1;rw[Nat.add_comm];unfold aO;rw[cC,cH hl];exact h
section
variable {ops:Array Oper} {rest:List Oper} {o o2:Oper} {a:Act} {w:World} {Q:Exit->Act->World->Prop}
end

section
variable {ops:Array Oper} {rest:List Oper} {o:Oper} {a:Act} {w:World} {Q:Exit->Act->World->Prop}
theorem PV{K:Act->World->Prop}(src dst:TypeId)(x:Operand)(ho:o.op=.convert src dst x)(v:Value)(hx:a.eval x=v){v':Value}{w':World}(hr:(convert src dst v).run prog w=.ok v' w')(h:K (a.put o.dst v') w'):Oper.wp prog o a w K Q:=by
 unfold Oper.wp execOp;simp only[ho,hx,Sem.run_bind,Sem.run_pure,Result.andThen_ok,hr];exact h
theorem AY(hg:Region.wanted o (yielded ops a.tmps)=true)(x:Operand)(ho:o.op=.load 30 x)(b k:Nat)(pv:Value)(u:Url)(h8:u.host.six.length=8)(hx:a.eval x=.pointer (some ⟨b,k,none⟩))(hr:w.rangeAt b k (aV pv u))
  (K:wpList prog ops Q rest (a.put o.dst (.agg (ai pv u))) w):wpList prog ops Q (o::rest) a w :=
 Ac hg (.agg (ai pv u)) (iX 30 x ho b k (aV pv u) _ underlying30 rfl (by rw[iI,pm h8]) hx hr) K
end

theorem a3s:OV U0:=⟨⟨⟨by decide,by decide,rfl,by decide⟩,by decide⟩,⟨by decide,by decide,by decide,by decide,by decide,by decide,by decide,by decide⟩,by decide,by decide⟩
theorem a1p(kind:Int)(b:Url)(s:Bytes):(fK kind b s).items.length<=s.length+1:=by
 unfold fK
 split
 ·exact Nat.le_add_left _ _
 split
 ·have:=(pQ s).1
  simp only[am];omega
 split
 ·split
  ·exact aK _
  exact Nat.le_add_left _ _
 exact aK _
theorem PT{o:Oper}{a:Act}{w:World}{K:Act->World->Prop}{Q:Exit->Act->World->Prop}(x:Operand)(ho:o.op=.convert 9 50 x)(l:Bytes)(hx:a.eval x=S l)(hl:l.length<=maxLen)
  (h:∀ v' w',Sl w'.heap.size w' v' (Lib.byteCells l)->Below w.heap.size w w'->K (a.put o.dst v') w'):Oper.wp prog o a w K Q:=by
 obtain⟨v',w',hr,hs,_,hb⟩:=KD l w hl;exact PV _ _ x ho (S l) hx hr (h v' w' hs hb)

theorem QF:∀ p∈za,p.2.length<=2*p.1.length:=by decide
theorem LB:∀ p∈qE,p.2.length<=2*p.1.length:=by decide
theorem PI:∀ p∈mB,2<=p.1.length:=by decide
theorem Dc(s:Bytes):(ik s).length<=s.length:=by
 unfold ik
 split
 ·rw[gO];omega
 exact af _
theorem M0{s t:Bytes}(h:fa s=some t):t.length<=2*s.length:=by
 have hc:=Dc s;unfold fa at h
 split at h
 ·next t' e =>
  cases h;have:=QF _ (ln e);dsimp only at this;omega
 split at h
 ·unfold ju at h
  split at h
  ·next hb =>
   have e:=bp h;subst e;have h4:=oG ((nR (ik s):Nat):Int);unfold nR at hb;cases hl:look mB (ik s)with
   |none=>rw[hl]at hb;exact absurd rfl hb
   |some v =>
    have:=PI _ (ln hl);dsimp only at this;omega
  have:=LB _ (ln h);dsimp only at this;omega
 cases h
theorem zI(s:Bytes):∀ n,(iR s n).1.length<=2*(iR s n).2
 |0=>by show([38]:Bytes).length<=2*1;decide
 |n+1=>by
  have ih:=zI s n;unfold iR
  split
  ·exact ih
  next t e =>
  split
  ·exact(by decide:([38]:Bytes).length<=2*1)
  have h:=M0 e;have h2:((s.drop 1).take (n+1)).length<=n+1:=by rw[aE];omega
  show t.length<=2*(n+2);omega
theorem WJ(s:Bytes)(b:Int)(f:Nat)(hf:2<=f):(Ei s b f).1.length<=2*(Ei s b f).2:=by
 unfold Ei
 split
 ·exact(by decide:([38]:Bytes).length<=2*1)
 show(gq _).length<=2*(f+_+_)
 have:(gq (kK b 0 (s.drop f)).1).length<=4:=by
  unfold gq
  split
  ·exact oG _
  exact oG _
 omega
theorem S6(s:Bytes):(gG s).1.length<=2*(gG s).2:=by
 unfold gG
 split
 ·unfold vf
  split <;>exact WJ _ _ _ (by decide)
 exact zI _ _
theorem AP:∀ (n:Nat) (s:Bytes),s.length<=n->(jl s).length<=2*s.length
 |0,s,h=>by
  obtain rfl:s=[]:=d9.mp (by omega);exact af _
 |n+1,[],_=>af _
 |n+1,x::r,h=>by
  rw[ag]at h;by_cases hx:x=38
  ·subst hx
   have h1:=xr (s:=38::r) (by simp);have h2:=S6 (38::r);have ih:=AP n ((38::r).drop (gG (38::r)).2) (by rw[ah,ag];omega);rw[ah,ag]at ih;rw[u4,ae,ag];rw[ag]at h1;omega
  have ih:=AP n r (by omega);rw[vW r hx,ag,ag];omega
theorem XC{l:Bytes}(h:l.length<=300):(oj l).length<=5400:=by
 have h1:=yi l;have h2:=oD _ (dS l) (af _);have h3:=AP _ (kJ (dS l)) (af _);unfold oj;omega
def ts:List da->Nat
 | []=>0
 |c::l=>(c.url.length+1)+ts l
theorem Qj{p:UInt8->Bool}:∀ {l:Bytes},l.dropWhile p=[]->∀ x∈l,p x=true
 | [],_,x,h=>by cases h
 |y::r,e,x,h=>by
  by_cases hy:p y=true
  ·rw[aU hy]at e
   rcases aj.mp h with rfl|h
   ·exact hy
   exact Qj e x h
  rw[bn hy]at e;cases e
theorem TA{x:UInt8}{r:Bytes}(h:x≠44):g9 (x::r) ≠ []:=by
 intro e;unfold g9 at e;have e2:=List.reverse_eq_nil_iff.mp e;have:=Qj e2 x (by simp);exact h (by simpa using this)
theorem Tz{u:Bytes}(h:lf u=true):(g9 u).length+1<=u.length:=by
 unfold lf at h;have h:=of_decide_eq_true h
 obtain⟨q,rfl⟩:∃ q,u=q++[44]:=by
  cases hu:u with
  |nil=>rw[hu]at h;cases h
  |cons a l =>
   have hne:u ≠ []:=by rw[hu];simp
   have e:=fG hne;rw[Vc hne]at h;rw[<-hu];exact⟨u.dropLast,by rw[<-Option.some.inj h];exact e.symm⟩
 unfold g9;rw[iC,iD];show((44::q.reverse).dropWhile _).length+1<=_;rw[aU (by decide)];have:=(cD (l:=q.reverse) fun x=>decide (x=44)).length_le;rw[iC]at this;rw[ae,e7];omega
theorem Xo(t:Bytes):(jb t).url.length+1+(jb t).rest.length<=t.length∨((jb t).rest=[]∧(jb t).url.length<=t.length):=by
 have hl:(t.takeWhile eR).length+(t.dropWhile eR).length=t.length:=by rw[<-List.length_append,eT]
 unfold jb
 split
 ·next h =>
  have:=Tz h
  left
  show(g9 _).length+1+(t.dropWhile eR).length<=_;omega
 have hw:(jY (t.dropWhile eR)).2.length<=(t.dropWhile eR).length:=IG _ _;cases hd:(jY (t.dropWhile eR)).2 with
 |nil =>
  right
  exact⟨rfl,by show(t.takeWhile eR).length<=_;omega⟩
 |cons y r =>
  rw[hd,ag]at hw
  left
  show(t.takeWhile eR).length+1+r.length<=_;omega
theorem NH:∀ k,iS k []=[]
 |0=>rfl
 |k+1=>by rw[iS];rfl
theorem OX(q:Stp)(l:List da):ts (sE q l)<=(q.url.length+1)+ts l:=by
 unfold sE
 split
 ·omega
 exact af _
theorem zZ:∀ (k:Nat) (s:Bytes),ts (iS k s)<=s.length+1
 |0,s=>aK _
 |k+1,s=>by
  rw[iS]
  split
  ·exact aK _
  have h1:=iN eW s;have h2:=OX (jb (s.dropWhile eW)) (iS k (jb (s.dropWhile eW)).rest);rcases Xo (s.dropWhile eW)with h3|⟨h3,h4⟩
  ·have ih:=zZ k (jb (s.dropWhile eW)).rest
   omega
  rw[h3,NH]at h2 ⊢;have:ts []=0:=rfl;omega
theorem Xj(s:Bytes):ts (iG s)<=s.length+1:=zZ _ s
theorem Xn{s:Bytes}(h:s.dropWhile eW ≠ []):1<=(jb (s.dropWhile eW)).url.length:=by
 obtain⟨x,r,e,hx⟩:=dw_head h;rw[e];have hn:=PN hx
 have AZ:x≠44:=by
  rintro rfl;exact absurd hx (by decide)
 unfold jb;rw[aY hn]
 split
 ·exact Jb fun h0=>TA AZ (ak h0)
 show 1<=(x::r.takeWhile eR).length;rw[ag];omega
theorem zY:∀ (k:Nat) (s:Bytes),∀c∈iS k s,1<=c.url.length
 |0,_,c,h=>by cases h
 |k+1,s,c,h=>by
  rw[iS]at h
  split at h
  ·cases h
  next hz =>
  rcases vq h with⟨e,_⟩|h
  ·rw[e];exact Xn hz
  exact zY k _ c h
theorem KM:∀ {l:List da},(∀c∈l,1<=c.url.length)->2*l.length<=ts l
 | [],_=>af _
 |c::l,h=>by
  have h1:=h c bM;have h2:=KM fun d hd=>h d (be _ hd);have:ts (c::l)=(c.url.length+1)+ts l:=rfl;rw[ag];omega
theorem KT{u:Url}{L M:Nat}(h:Ul L M u):u.host.name.length<=96*L+8:=by
 rcases h.host with⟨n,sp,hn,hh⟩|h
 ·have key:∀ g,qh n sp g->g.name.length<=96*L+8:=by
   intro g e;cases e with
   |six a h8 ha _=>exact aK _
   |name m e _ hd hn2 hb he =>
    have h1:=pN _ n (af _);have h2:=pl (signs (mQ n));have h3:=k6 _ (mQ n) (af _);have h4:=vK hd;show m.length<=_;omega
   |four m e _ h=>exact aK _
   |empty e h=>exact aK _
   |Ej e _ h hb =>
    have:=Kt n;show(dq 0 n).length<=_;omega
  exact key _ (hkind hh)
 rw[h];exact aK _
theorem KG{L M:Nat}{u:Url}(h:Ul L M u)(ok:gI u)(hM:3*L+3<=M):(di u true).length<=112*L+M+130:=by
 have h0:=KT h;have h2:=sO u.host ok.h (96*L+8) h0;have h3:=zD u ok;have a1:=h.usr;have a2:=h.fp;have a3:=h.flat;have a4:=h.path;have a5:=h.q;have a6:=h.f;have a7:=h.aH
 have hw:(uH u).length<=6*L+2:=by
  unfold uH
  split
  ·simp
  split <;>simp only[ae,ag,aN] <;>omega
 have ha:(eP u).length<=102*L+108:=by
  unfold eP qH
  split
  ·split <;>simp
  simp only[ae,ag,aN];omega
 have hp:(gX u).length<=M:=by
  unfold gX
  split <;>omega
 have hq:(qF u).length<=3*L+1:=by
  unfold qF
  split
  ·rw[ae,e7];omega
  simp
 have hf:(QC u true).length<=3*L+1:=by
  unfold QC
  split
  ·rw[ae,e7];omega
  simp
 unfold di;simp only[ae,ag,aN];omega
theorem a1O{L M:Nat}{u:Url}(h:Ul L M u)(hL:L<=1000000)(hM:M<=1024000000):ke u:=by
 have h0:=KT h;exact⟨by have:=h.aH;omega,by have:=h.usr;omega,by have:=h.fp;omega,by omega,by have:=h.flat;omega,by have:=h.path;omega,by have:=h.q;omega,by have:=h.f;omega⟩
theorem KR{b u:Url}{t s:Bytes}(ht:t.length<=300)(hb:gM t=some b)(h:lX b s=some u):Ul (300+s.length) (6*(300+s.length)+6) u:=by
 have h0:=xY (L:=300+s.length) (by omega) (by omega) hb;have hl:=TH (L:=300+s.length) (by omega) (by omega) h0 h;exact hl.more (by omega)
theorem wM{b u:Url}{t s:Bytes}(ht:t.length<=300)(hb:gM t=some b)(h:lX b s=some u):(di u true).length<=118*s.length+35536:=by
 have:=KG (KR ht hb h) (u7 (nJ (jT hb) h)) (by omega);omega
theorem RD{b u:Url}{t s:Bytes}(ht:t.length<=300)(hs:s.length<=100000)(hb:gM t=some b)(h:lX b s=some u):OV u:=by
 have hl:=KR ht hb h;exact⟨u7 (nJ (jT hb) h),a1O hl (by omega) (by omega),YS hl (by omega)⟩
theorem Bh{b:Url}{t s:Bytes}(ht:t.length<=300)(hs:s.length<=100000)(hb:gM t=some b)(ws:List Bytes):OV (dC b s ws).url:=by
 unfold dC;cases h:lX b s with
 |none=>exact a3s
 |some u=>exact RD ht hs hb h
theorem a1q{kind:Int}{b:Url}{t s:Bytes}(ht:t.length<=300)(hs:s.length<=100000)(hb:gM t=some b):∀ i∈(fK kind b s).items,OV i.url:=by
 intro i hi;unfold fK at hi
 split at hi
 ·obtain rfl:i=dC b s []:=by simpa using hi
  exact Bh ht hs hb _
 split at hi
 ·obtain⟨c,hc,rfl⟩:=cm.mp hi
  exact Bh ht (ap ((pQ s).2 c hc).1 hs) hb _
 split at hi
 ·split at hi
  ·cases hi
  next r hr =>
  dsimp only at hi
  split at hi
  ·obtain rfl:i=dC b r.url []:=by simpa using hi
   exact Bh ht (ap (xw hr) hs) hb _
  obtain rfl:i=⟨true,b,[]⟩:=by simpa using hi
  exact Fa (by omega) hb
 cases hi
def oh:List eG->Nat
 | []=>0
 |i::l=>((dQ i).length+2)+oh l
theorem DB:∀ l:List eG,(l.flatMap fun y=>[44,32]++dQ y).length=oh l
 | []=>rfl
 |i::l=>by
  have:=DB l;simp only[ch,ae,ag,aN]at this ⊢;have e:oh (i::l)=((dQ i).length+2)+oh l:=rfl;omega
theorem Ef(l:List eG):(fM l).length<=oh l:=by
 cases l with
 |nil=>exact af _
 |cons i l =>
  show(dQ i++_).length<=((dQ i).length+2)+oh l;rw[ae,DB];omega
theorem Ea{kind:Int}{b:Url}{t:Bytes}{W:Nat}(ht:t.length<=300)(hb:gM t=some b):∀ {l:List da},(∀c∈l,(cy c.words).length<=W) ->
  oh (cP kind (l.map fun c=>dC b c.url c.words))<=118*ts l+(35538+W)*l.length
 | [],_=>af _
 |c::l,h=>by
  have ih:=Ea (kind:=kind) ht hb fun d hd=>h d (be _ hd);have hw:=h c bM;have e:ts (c::l)=(c.url.length+1)+ts l:=rfl;have e3:(35538+W)*(l.length+1)=(35538+W)*l.length+(35538+W):=Nat.mul_succ _ _;rw[e,dw,ag,e3];unfold cP at ih ⊢;cases hk:mM kind (dC b c.url c.words)with
  |false =>
   rw[bj (by rw[hk];simp)];omega
  |true =>
   rw[bk hk]
   have hr:(dC b c.url c.words).right=true:=by
    unfold mM at hk;rw[bD]at hk;exact hk.1
   obtain⟨u,hu,hi⟩:=mL hr;have hs:=wM ht hb hu;have e2:oh (dC b c.url c.words::(l.map fun c=>dC b c.url c.words).filter (mM kind))=((dQ (dC b c.url c.words)).length+2)+oh ((l.map fun c=>dC b c.url c.words).filter (mM kind)):=rfl
   have e4:(dQ (dC b c.url c.words)).length=(di u true).length+(cy c.words).length:=by
    rw[hi];unfold dQ;rw[ae]
   rw[e2,e4];omega
theorem Kp{kind:Int}{b:Url}{t s:Bytes}{i:eG}{n:Nat}(ht:t.length<=300)(hb:gM t=some b)(hs:s.length<=n)(hi:i=dC b s []∨i=⟨true,b,[]⟩):oh (cP kind [i])<=118*n+35538:=by
 unfold cP;cases hk:mM kind i with
 |false =>
  rw[bj (by rw[hk];simp)];exact aK _
 |true =>
  rw[bk hk]
  have hr:i.right=true:=by
   unfold mM at hk;rw[bD]at hk;exact hk.1
  have key:∀ u:Url,(di u true).length<=118*n+35536->oh [(⟨true,u,[]⟩:eG)]<=118*n+35538:=fun u hu=>by
   show((dQ ⟨true,u,[]⟩).length+2)+0<=_;unfold dQ;rw[ae];show(di u true).length+0+2+0<=_;omega
  rcases hi with rfl|rfl
  ·obtain⟨u,hu,e⟩:=mL hr
   have:=wM ht hb hu;show oh [dC b s []]<=_;rw[e];exact key u (by omega)
  have h0:=KG ((xY (L:=300) ht (by omega) hb)) (u7 (jT hb)) (by omega);exact key b (by omega)
theorem D9{kind:Int}{b:Url}{t s:Bytes}(ht:t.length<=300)(hb:gM t=some b)(hs:s.length<=5400):oh (cP kind (fK kind b s).items)<=142000000∧(kind≠2->oh (cP kind (fK kind b s).items)<=700000):=by
 have hnil:oh (cP kind [])=0:=rfl;unfold fK
 split
 ·have:=Kp (kind:=kind) (n:=5400) ht hb hs (.inl rfl)
  dsimp only;exact⟨by omega,fun _=>by omega⟩
 split
 ·next h2 =>
  refine⟨?_,fun h=>absurd h2 h⟩
  have h1:=Ea (kind:=kind) (W:=16203) ht hb (l:=iG s) fun c hc=>by
   obtain⟨d,hd,_⟩:=sa s.length s c hc;have hn:=Z3 hd;have hw:=IJ (n:=5400) fun w hw=>ap (EU s.length s c hc w hw) hs;have:5401*c.words.length<=5401*3:=p6 _ hn;omega
  have h3:=Xj s;have h4:=KM fun c hc=>zY s.length s c hc
  have h5:(iG s).length<=2700:=by
   have:2*(iG s).length<=ts (iG s):=h4;omega
  have h6:(35538+16203)*(iG s).length<=(35538+16203)*2700:=p6 _ h5;show oh (cP kind ((iG s).map fun c=>dC b c.url c.words))<=_;omega
 split
 ·split
  ·exact⟨aK _,fun _=>aK _⟩
  next r hr =>
  have hl:=xw hr
  have:=Kp (kind:=kind) (s:=r.url) (n:=5400) (i:=if r.has=true then dC b r.url []else⟨true,b,[]⟩) ht hb (by omega) (by
   split
   ·exact .inl rfl
   exact .inr rfl)
  exact⟨by dsimp only;omega,fun _=>by dsimp only;omega⟩
 exact⟨aK _,fun _=>aK _⟩
theorem Kx{kind:Int}{b:Url}{s:Bytes}:(fK kind b s).delay.length<=s.length+1:=by
 have key:∀ r,xu s=some r->r.delay.length<=s.length+1:=by
  intro r h;have h1:=iN jk s;have h2:=tB kY (bG s);have h3:=iN z48 ((bG s).takeWhile kY)
  have h4:(jO ((bG s).takeWhile kY)).length<=s.length+1:=by
   unfold jO;have:(bG s).length<=s.length:=h1
   split
   ·show 1<=_;omega
   omega
  unfold xu YO at h
  split at h
  ·cases h
  unfold W5 at h
  split at h
  ·cases h;exact h4
  split at h
  ·cases h
  split at h <;>(cases h;exact h4)
 unfold fK
 split
 ·exact aK _
 split
 ·exact aK _
 split
 ·split
  ·exact aK _
  next r hr=>exact key r hr
 exact aK _
theorem RQ{kind:Int}{b:Url}{t s:Bytes}(ht:t.length<=300)(hb:gM t=some b)(hs:s.length<=5400)(h2:kind=2):∀ i∈cP kind (fK kind b s).items,(di i.url true).length<=1048576:=by
 intro i hi;obtain⟨h1,hr,_⟩:=fy hi;unfold fK at h1;rw[if_neg (by omega),if_pos h2]at h1;obtain⟨c,hc,rfl⟩:=cm.mp h1;obtain⟨u,hu,e⟩:=mL hr;have:=wM ht hb hu;have:=((pQ s).2 c hc).1;rw[e];show(di u true).length<=_;omega
theorem Mb{l:List eG}:(AT l).length<=oh l:=by
 cases l with
 |nil=>exact af _
 |cons i l =>
  show(di i.url true).length<=((dQ i).length+2)+oh l;unfold dQ;rw[ae];omega
theorem PE{kind:Int}{b:Url}{t s:Bytes}(ht:t.length<=300)(hb:gM t=some b)(hs:s.length<=5400) :
  (iM kind (cP kind (fK kind b s).items) (fK kind b s).delay).length<=142000000∧(kind≠2->(iM kind (cP kind (fK kind b s).items) (fK kind b s).delay).length<=1000000):=by
 obtain⟨h1,h2⟩:=D9 (kind:=kind) ht hb hs;have h3:=Kx (kind:=kind) (b:=b) (s:=s);generalize (fK kind b s).delay=d at h3 ⊢;generalize cP kind (fK kind b s).items=L at h1 h2 ⊢;have h4:=Mb (l:=L);have h5:=Ef L;unfold iM
 split
 ·next hk=>exact⟨by omega,fun h=>by have:=h2 h;omega⟩
 split
 ·next hk=>exact⟨by omega,fun h=>absurd hk h⟩
 next hk =>
 have:=h2 hk
 split
 ·unfold S8
  rw[if_pos rfl];simp only[ae,ag,aN];exact⟨by omega,fun _=>by omega⟩
 exact⟨aK _,fun _=>aK _⟩
theorem LU{kind:Int}{b:Url}{t s:Bytes}(ht:t.length<=300)(hb:gM t=some b)(hs:s.length<=5400)(hne:cP kind (fK kind b s).items ≠ []) :
  Ve kind (ic kind (cP kind (fK kind b s).items) (fK kind b s).delay)∧∃ B,ic kind (cP kind (fK kind b s).items) (fK kind b s).delay=eX B∧(∀y∈B,eo y):=by
 have g:=jT hb;have ha:=CQ (kind:=kind) (s:=s) g;obtain⟨l1,l2⟩:=PE (kind:=kind) ht hb hs
 have hw:ic kind (cP kind (fK kind b s).items) (fK kind b s).delay=eX (iM kind (cP kind (fK kind b s).items) (fK kind b s).delay):=by
  unfold ic;rw[if_neg hne]
 have hB:∀ c∈iG (iM kind (cP kind (fK kind b s).items) (fK kind b s).delay),c.url.length<=1048576:=by
  by_cases h2:kind=2
  ·have eb:iM kind (cP kind (fK kind b s).items) (fK kind b s).delay=fM (cP kind (fK kind b s).items):=by unfold iM;rw[if_neg (by omega),if_pos h2]
   have hk:=RQ (kind:=kind) ht hb hs h2
   have hp:∀ i∈cP kind (fK kind b s).items,LOk (di i.url true) i.words ((gJ i.words).getD C0):=by
    intro i hi;obtain⟨d,e⟩:=Bu h2 i (fy hi).1;rw[e];exact⟨(fy hi).2.2 h2,e⟩
   rw[eb,EV (fun i=>(gJ i.words).getD C0) _ hp];intro c hc;obtain⟨i,hi,rfl⟩:=cm.mp hc;exact hk i hi
  intro c hc;exact ap ((pQ _).2 c hc).1 (ap (l2 h2) (by decide))
 generalize iM kind (cP kind (fK kind b s).items) (fK kind b s).delay=B at *;rw[hw];refine⟨?_,B,rfl,ha⟩;have he:=vX B
 have h0:∀ x∈eX B,x≠0:=Dy fun x hx=>by
  rintro rfl;exact absurd (ha 0 hx).1 (by decide)
 have hd:kJ (dS (eX B))=eX B:=by
  rw[nN h0,AG];refine xp _ fun x hx=>?_;obtain⟨y,hy,hx⟩:=cT.mp hx;exact Ko (by have:=(ha y hy).2;omega) x hx
 refine⟨by omega,by rw[nN h0];omega,by rw[hd];omega,?_⟩;rw[Fb ha];exact⟨by omega,hB,l2⟩

def mx(W0 W:World)(b2 b1:Nat)(v:Value)(l:List eG):Prop:=∃ ps:List ((Value×Value)×eG),ps.map (·.2)=l∧W.ownsRow b1 41 25 v ps.length (ps.flatMap ipc)∧∀ p∈ps,mw W0 b2 p
theorem mx.nil(W0 W:World)(b2 b1:Nat):mx W0 W b2 b1 (.slice none 0 0) []:=⟨[],rfl,World.ownsRow_nil _ _ _ _,fun p hp=>by cases hp⟩
theorem mx.row{W0 W:World}{b2 b1:Nat}{v:Value}{l:List eG}(c:mx W0 W b2 b1 v l)(hb:Below W0.heap.size W0 W)(h:b2<=b1):fS W b2 v l:=by
 obtain⟨ps,h1,h2,h3⟩:=c;exact⟨ps,h1,kZ h2 h,fun p hp=>(h3 p hp).below hb⟩
theorem mx.below{W0 W W':World}{b2 b1:Nat}{v:Value}{l:List eG}(c:mx W0 W b2 b1 v l)(h:Below W.heap.size W W'):mx W0 W' b2 b1 v l:=by
 obtain⟨ps,h1,h2,h3⟩:=c;exact⟨ps,h1,own_below h2 h,h3⟩
theorem mx.tn{b:Nat}{W0 W W':World}{b2 b1:Nat}{v:Value}{l:List eG}(c:mx W0 W b2 b1 v l)(h:Tn b W W')(hb:b<b1):mx W0 W' b2 b1 v l:=by
 obtain⟨ps,h1,h2,h3⟩:=c;exact⟨ps,h1,h.BB h2 hb,h3⟩
theorem mx.len{W0 W:World}{b2 b1:Nat}{v:Value}{l:List eG}(c:mx W0 W b2 b1 v l):∃ a cp,v=.slice a l.length cp:=by
 obtain⟨ps,rfl,h2,_⟩:=c;rw[am];rcases h2.2 with⟨rfl,h0⟩|⟨g,cap,cur,rfl,_⟩
 ·exact⟨none,0,by rw[h0]⟩
 exact⟨_,_,rfl⟩
theorem mx.one'{W0 W:World}{b2 b1:Nat}{v:Value}{l:List eG}(c:mx W0 W b2 b1 v l):v.oneCell'=true:=by
 obtain⟨a,cp,rfl⟩:=c.len;rfl
section
variable {ops:Array Oper} {rest:List Oper} {o:Oper} {a:Act} {w:World} {Q:Exit->Act->World->Prop}
theorem YM(hgd:o.guard=none)(s x:Operand)(ho:o.op=.call {callee:=.builtin .append,args:=#[s,x],argTypes:=#[33,33]})
  (W0:World) (b2 b1:Nat) {v pv wv:Value} {l:List eG} {c:eG} (hs:a.eval s=v) (hown:mx W0 w b2 b1 v l) (hw:mw W0 b2 ((pv,wv),c)) (hx:a.eval x=.slice (some ⟨w.heap.size,0,none⟩) 1 1)
  (h63:l.length+1<=1000000000) (hbase:b1<=w.heap.size)
  (h:∀ v' w',mx W0 w' b2 b1 v' (l++[c])->Below b1 w w'->wpList prog ops Q rest (a.put o.dst v') w') :
  wpList prog ops Q (o::rest) a (w.alloc (.cells (ce pv wv c) 41)):=by
 obtain⟨i,hi,hz,hz1,hz2⟩:=info_parts zj;obtain⟨ps,rfl,h2,h3⟩:=hown;rw[am]at h63;have hb0:Below w.heap.size w (w.alloc (.cells (ce pv wv c) 41)):=(Below.refl _ _).alloc (af _) _;refine wpList_append_own_at _ hgd s x _ ho b1 41 i _ 25 240 underlying33 hi hz hz1 hz2 (by rfl) (by decide) v ps.length _ hs (h2.alloc _) ⟨w.heap.size,0,none⟩ 1 1 (aO pv wv c) hx (by rw[lU hw.six]) ?_ (JS (bm hw.path) (bm hw.words)) (by unfold maxLen;omega) (by omega) (ap hbase hb0.size) ?_
 ·intro j u hj
  rw[addr_add,bC];have hj2:(ce pv wv c)[j]? = some u:=by rw[bT];exact hj
  rw[World.cell?_alloc_mark];exact hj2
 intro v' w' ho' hg _ _;refine h v' w' ⟨ps++[((pv,wv),c)],by simp,?_,?_⟩ ?_
 ·rw[ae,cQ]
  simpa using ho'
 ·intro p hp
  rcases au.mp hp with hp|hp
  ·exact h3 p hp
  obtain rfl:p=((pv,wv),c):=by simpa using hp
  exact hw
 exact((hb0.mono hbase)).grown hg (ap hbase hb0.size) (fun k hk=>(h2.lt k hk).1)
theorem Xl{W:World}(hgd:o.guard=none)(x y:Operand)(ho:o.op=.store 35 x y)(v:Value)(d:Bytes)(h1:v.oneCell'=true)(hW:W=w.alloc (.cells (bI aR []) 35))(hx:a.eval x=.pointer (some ⟨w.heap.size,0,none⟩))(hy:a.eval y=.agg (bI v d))
  (k:∀ w',OB w w.heap.size 35 (bI v d) w'->wpList prog ops Q rest (a.put o.dst undef) w'):wpList prog ops Q (o::rest) a W :=
 mg hgd _ x y ho (bI v d) (bI aR []) pO rfl (all_oneCell_toArray (S2 (d:=d) h1)) hW hx hy fun w' c b=>k w' (OB.of c (af _) b)
end

theorem a1L(w:World)(v1 v2:Value)(d:Bytes):∃ W,(w.alloc (.cells (bI v1 d) 35)).alloc (.cells (bI v2 d) 35)=W∧Below w.heap.size w W∧CB W w.heap.size 35 (bI v1 d)∧CB W (w.heap.size+1) 35 (bI v2 d):=by
 have hx:=CB.new w 35 (bI v1 d);have hb:=(Below.refl w.heap.size w).alloc (af _) (.cells (bI v1 d) 35);obtain⟨w1,hw1⟩:=az (w.alloc (.cells (bI v1 d) 35));have hz1:w1.heap.size=w.heap.size+1:=by rw[hw1];simp
 rw[<-hw1]at hx hb ⊢;have hy:=CB.new w1 35 (bI v2 d);have hb2:=(Below.refl w1.heap.size w1).alloc (af _) (.cells (bI v2 d) 35);rw[hz1]at hy;exact⟨_,rfl,iK hb hb2,hx.keep hb2,hy⟩
section
variable {ops:Array Oper} {rest:List Oper} {o:Oper} {a:Act} {w:World} {Q:Exit->Act->World->Prop}
theorem AX(hgd:o.guard=none)(x:Operand)(ho:o.op=.load 41 x)(b k:Nat)(pv wv:Value)(it:eG)(h8:it.url.host.six.length=8)(hr:w.rangeAt b k (aO pv wv it))(hx:a.eval x=.pointer (some ⟨b,k,none⟩))(K:wpList prog ops Q rest (a.put o.dst (.agg (ce pv wv it))) w):wpList prog ops Q (o::rest) a w :=
 lz hgd (.agg (ce pv wv it)) (iX 41 x ho b k (aO pv wv it) _ underlying41 rfl (by rw[lU h8];exact rQ) hx hr) K
end
theorem If(r:Rd)(v1 v2:Value)(w:World)(b1 b2:Nat)(h1:fS w b1 v1 r.items)(h2:fS w b2 v2 r.items)(hl:r.items.length<=1000000000) :
  bN prog 18 #[.agg (bI v1 r.delay),.agg (bI v2 r.delay)] w (.bool true):=by
 obtain⟨W,hW,hb,k1,k2⟩:=a1L w v1 v2 r.delay;obtain⟨a1,c1,e1⟩:=h1.len;obtain⟨a2,c2,e2⟩:=h2.len;have HW:=h_ hW;have BW:=h_ hb;have K1:=h_ k1;have K2:=h_ k2;have R1:=h_ h1;have R2:=h_ h2;obtain⟨N,hN⟩:=az (r.items.length);have HN:=h_ hN;rw[<-hN]at e1 e2 hl;obtain⟨db,hdb⟩:=az (bs r.delay)
 have UJ:=h_ (fun(V:World) (hb2:Below W.heap.size W V)=>(show V.cell? ⟨w.heap.size,0,none⟩=some (.slice a1 N c1)∧V.cell? ⟨w.heap.size,1,none⟩=some (.string db)∧V.cell? ⟨w.heap.size+1,0,none⟩=some (.slice a2 N c2)∧V.cell? ⟨w.heap.size+1,1,none⟩=some (.string db)from
  ⟨by rw[<-e1];exact(k1.keep hb2).aF rfl,by rw[hdb];exact(k1.keep hb2).aF rfl,by rw[<-e2];exact(k2.keep hb2).aF rfl,by rw[hdb];exact(k2.keep hb2).aF rfl⟩))
 have E1:=h_ e1;have E2:=h_ e2;clear hW hb k1 k2 h1 h2 hN hdb e1 e2;go_enter func18,ntmps18
 go_upto_region 1 with fail
 rw[HW.out];obtain⟨f1,f2,f3,f4⟩:=UJ.out W (Below.refl _ _)
 go_wp2_with fail
 clear f1 f2 f3 f4
 go_loopw [4,5,6,7] (fun _ iv _ _ wr=>∃ k:Nat,k<=N∧iv=.int .i64 k∧Hid (Below W.heap.size W wr)) (fun _ i _ _ _=>N-(intOf i).toNat)
 case atStart=>exact⟨0,aK _,rfl,h_ (Below.refl _ _)⟩
 case round =>
  obtain⟨k,hk,rfl,BR⟩:=hrel;obtain⟨f1,f2,f3,f4⟩:=UJ.out wr BR.out;by_cases hkN:k<N
  ·have hkl:k<r.items.length:=by have:=HN.out;omega
   have hne:r.items ≠ []:=fun h=>by rw[h]at hkl;exact absurd hkl (cg _)
   have B0:=h_ (BW.out.trans (BR.out.mono BW.out.size));obtain⟨g1,p1,ea,_,at1⟩:=(R1.out.below B0.out).open hne;obtain⟨g2,p2,eb,_,at2⟩:=(R2.out.below B0.out).open hne;obtain⟨pa,wa,ca,My⟩:=at1 k hkl;obtain⟨pb,wb,cb,ipb⟩:=at2 k hkl;rw[E1.out]at ea;rw[E2.out]at eb;injection ea with ea x1 x2
   injection eb with eb x3 x4
   clear x1 x2 x3 x4;obtain⟨it,hit⟩:=az (r.items[k]);rw[<-hit]at ca cb My ipb;have H8:=h_ My.six;have RA:=h_ (show wr.rangeAt g1 (k*25) (aO pa wa it)from fun j x hj=>ca j x hj);have hcl:∀ {V:World} {g j:Nat} {x:Value},Below wr.heap.size wr V->wr.cell? ⟨g,j,none⟩=some x->V.cell? ⟨g,j,none⟩=some x:=fun hb hc=>(hb.cell (p:=⟨_,_,none⟩) (World.block_lt_of_cell? _ _ hc)).trans hc;have RB:=h_ (fun(V:World) (hb2:Below wr.heap.size wr V)=>(show V.rangeAt g2 (k*25) (aO pb wb it)from fun j x hj=>hcl hb2 (cb j x hj)));have PA:=h_ (Sl.dM (lq My.path));have PB:=h_ (Sl.dM (lq ipb.path));have WA:=h_ (Sl.dM (lq My.words));have WB:=h_ (Sl.dM (lq ipb.words));have OA:=h_ (And.intro (bm My.path) (bm My.words));have OB1:=h_ (And.intro (bm ipb.path) (bm ipb.words));subst ea;subst eb;clear at1 at2 ca cb My ipb hit hne hkl hcl
   go_upto_region 7 with(first
    |((with_reducible refine ig ?_);refine AX rfl (.tmp 32) rfl g1 (k*25) pa wa it H8.out RA.out (by simp[Act.eval]) ?_;refine aS rfl 41 rfl _ _ (CD _) ?_;refine a09 rfl (.tmp 6) (.tmp 33) rfl pa wa it H8.out OA.out.1 OA.out.2 rfl rfl rfl ?_;intro w4 i4;have I4:=h_ i4;clear i4)
    |fail)
   have B4:=h_ I4.out.bL;have F4:=h_ (BR.out.trans (B4.out.mono BR.out.size));obtain⟨q6,hq6⟩:=az (wr.heap.size);rw[<-hq6]at I4 ⊢;clear f1 f2 f3 f4 RA hq6;obtain⟨f1,f2,f3,f4⟩:=UJ.out w4 F4.out
   go_upto_region 8 with(first
    |((with_reducible refine ig ?_);refine AX rfl (.tmp 37) rfl g2 (k*25) pb wb it H8.out (RB.out _ B4.out) (by simp[Act.eval,Act.put]) ?_;refine aS rfl 41 rfl _ _ (CD _) ?_;refine a09 rfl (.tmp 7) (.tmp 38) rfl pb wb it H8.out OB1.out.1 OB1.out.2 rfl rfl rfl ?_;intro w5 i5;have I5:=h_ i5;clear i5)
    |fail)
   have C6:=h_ (I4.out.cb.keep I5.out.bL);have B5:=h_ (B4.out.trans (I5.out.bL.mono B4.out.size));have F5:=h_ (BR.out.trans (B5.out.mono BR.out.size));obtain⟨q7,hq7⟩:=az (w4.heap.size);rw[<-hq7]at I5 ⊢;have C7:=h_ I5.out.cb;obtain⟨rt,hrt⟩:=az (it.right);have e0:w5.cell? ⟨q6,0,none⟩=some (.bool rt):=by rw[hrt];exact C6.out.aF rfl
   have e1:w5.cell? ⟨q7,0,none⟩=some (.bool rt):=by rw[hrt];exact C7.out.aF rfl
   have RU6:=h_ (show w5.rangeAt q6 1 (aV pa it.url)from C6.out.range (fun j x hj=>by rw[bT];exact GV hj));have RU7:=h_ (show w5.rangeAt q7 1 (aV pb it.url)from C7.out.range (fun j x hj=>by rw[bT];exact GV hj));have XZ:=h_ ((PA.out.below B5.out).more B5.out.size);have HPB:=h_ ((PB.out.below B5.out).more B5.out.size);clear f1 f2 f3 f4 RB I4 I5 hq7 hrt PA PB B4 F4
   go_wp2_with (first
    |((with_reducible refine ig ?_);refine AY (by rfl) (.tmp 45) rfl q6 1 pa it.url H8.out rfl RU6.out ?_)
    |((with_reducible refine ig ?_);refine AY (by rfl) (.tmp 47) rfl q7 1 pb it.url H8.out rfl RU7.out ?_)
    |(go_at_call 47;refine(Ie it.url pa pb _ H8.out XZ.out HPB.out).mono ?_;rintro e w6 ⟨rfl,hb⟩;have D6:=h_ (B5.out.trans (hb.mono B5.out.size));have e2:w6.cell? ⟨q6,24,none⟩=some wa:=(C6.out.keep hb).aF (by rw[bT];exact Rz H8.out);have e3:w6.cell? ⟨q7,24,none⟩=some wb:=(C7.out.keep hb).aF (by rw[bT];exact Rz H8.out);clear hb e0 e1)
    |(go_at_call 15;refine(xC it.words it.words wa wb _ _ _ (WA.out.below D6.out) (WB.out.below D6.out)).mono ?_;rintro e w7 ⟨rfl,hb⟩;rw[show decide (it.words=it.words)=true from decide_eq_true rfl];have D7:=h_ (D6.out.trans (hb.mono D6.out.size));clear hb)
    |fail)
   go_roundw
   case rel=>exact⟨k+1,by omega,by go_num,h_ (BR.out.trans (D7.out.mono BR.out.size))⟩
   case measure=>simp[intOf];omega
  obtain rfl:k=N:=by omega
  go_wp2_with fail
  go_ret;exact⟨rfl,BW.out.trans (BR.out.mono BW.out.size)⟩
end Go.Proofs.YtmndlfglgcioeaaGreatDoor

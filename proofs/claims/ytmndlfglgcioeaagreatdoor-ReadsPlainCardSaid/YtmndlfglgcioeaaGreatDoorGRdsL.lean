/- RplA RplB RplC RdsE RdsK RdsL SmrB RdsM Sm24: joined. -/
import Derived.Lib.IndexLaws
import Derived.Lib.SlBuf
import Derived.Test.YtmndlfglgcioeaaGreatDoorGAthW
import Derived.Deep.CutBlock
import Derived.Deep.DeepCutAuto
import Derived.Test.YtmndlfglgcioeaaGreatDoorGHlwA
import Derived.Test.YtmndlfglgcioeaaGreatDoorShelf4
import Derived.Laws.IdiomStrings
import Derived.Test.YtmndlfglgcioeaaGreatDoorGEntD
import Derived.Test.YtmndlfglgcioeaaGreatDoorGNumT
import Derived.Test.YtmndlfglgcioeaaGreatDoorGRdsF
import Derived.Lib.SlBytesConst
import Derived.Test.YtmndlfglgcioeaaGreatDoorGWlkY
import Derived.Test.YtmndlfglgcioeaaGreatDoorMLaw24E
import Derived.Test.YtmndlfglgcioeaaGreatDoorGSixF
set_option maxHeartbeats 40000000
namespace Go.Proofs.YtmndlfglgcioeaaGreatDoor
open Go.RowKit
set_option maxRecDepth 10000
theorem rX:∀ l:Bytes,(l.count 0=0∧∀ x∈l,x≠0)∨∃ A B,l=A++0::B∧(∀x∈A,x≠0)∧Lib.indexByte l 0=(A.length:Nat)∧l.count 0=B.count 0+1
 | []=>.inl ⟨rfl,fun _ h=>(by cases h)⟩
 |x::r=>by
  by_cases hx:x=0
  ·subst hx
   exact .inr ⟨[],r,rfl,fun _ h=>(by cases h),by simp[Lib.indexByte],by rw[a9G]⟩
  rcases rX r with⟨h1,h2⟩|⟨A,B,rfl,h2,h3,h4⟩
  ·refine .inl ⟨by rw[vd hx];exact h1,fun y hy=>?_⟩
   rcases aN.mp hy with rfl|hy
   ·exact hx
   exact h2 y hy
  refine .inr ⟨x::A,B,rfl,fun y hy=>?_,?_,by rw[vd hx];exact h4⟩
  ·rcases aN.mp hy with rfl|hy
   ·exact hx
   exact h2 y hy
  rw[Lib.indexByte]
  have hb:(x==0)=false:=by simpa using hx
  rw[h3]
  simp only[hb,ag]
  split <;>first|omega|(simp_all;done)|skip
theorem xa {raw A B:Bytes} {st:Nat} (h:raw.drop st=A++0::B) (hA:∀ x∈A,x≠0):dI (raw.take (st+A.length+1))=dI (raw.take st)++A++gQ∧raw.drop (st+A.length+1)=B:=by
 have e1:raw.take (st+A.length+1)=raw.take st++(A++[0]):=by
  rw[lK,List.take_add,h]
  congr 1
  rw[show A++0::B=(A++[0])++B by simp,jg (by simp)]
 refine⟨?_,?_⟩
 ·rw[e1,mK,mK,iT hA,<-List.append_assoc]
  rfl
 rw[lK,<-List.drop_drop,h,show A++0::B=(A++[0])++B by simp,RX (by simp)]
theorem N7 {raw:Bytes} {st:Nat} (h:∀ x∈raw.drop st,x≠0):dI raw=dI (raw.take st)++raw.drop st:=by
 conv=>lhs;rw[<-List.take_append_drop st raw]
 rw[mK,iT h]
theorem oG:∀ l:Bytes,(dI l).length=l.length+2*l.count 0
 | []=>rfl
 |x::r=>by
  show((if x=0 then gQ else [x])++dI r).length=_
  rw[af,oG r]
  by_cases hx:x=0
  ·subst hx
   rw[if_pos rfl,a9G]
   show 3+_=_+1+_
   omega
  rw[if_neg hx,vd hx]
  simp only[ag,aQ]
  omega
end Go.Proofs.YtmndlfglgcioeaaGreatDoor
set_option maxHeartbeats 40000000
namespace Go.Proofs.YtmndlfglgcioeaaGreatDoor
open Tryz
open Go.RowKit
set_option maxRecDepth 10000
theorem y9 {w0 W:World} {h N:Nat} {acc:Bytes} (b:Lib.Buf w0 W h N acc):Lib.Buf w0 W.drew h N acc:=⟨b.below.drew,b.there,b.free,b.holds,b.fits⟩
theorem Kq (w:World) (N:Nat):Lib.Buf w (w.alloc (.cells (madeCells #[.int .u8 0] (N*1)) 5)) w.heap.size N [] where
 below:=(Below.refl _ _).alloc (ae _) _
 there:=fun j hj=>by
  rw[World.cell?_alloc_mark,cF (by rw[size_madeCells];omega)]
  rfl
 free:=fun j _=>by
  have:=World.frozen?_alloc_mark w (madeCells #[.int .u8 0] (N*1)) 5 0 0 j
  rw[this]
  simp
 holds:=fun j x hx=>by simp at hx
 fits:=aO _
def A3 (w:World) (b o:Nat) (l:Bytes):Prop:=∀ (i:Nat) x,l[i]? = some x->w.cell? ⟨b,o+i,none⟩=some (.int .u8 (x.toNat:Int))
theorem Uw {w:World} {b o:Nat} {l:Bytes} (h:At w b o (Lib.byteCells l)):A3 w b o l:=by
 intro i x hx
 have hi:=(be.1 hx).1
 have:=h i (by rw[Lib.byteCells_length];exact hi)
 rw[this]
 simp only[Lib.byteCells,bQ]
 rw[(be.1 hx).2]
theorem y5 {w:World} {b o:Nat} {l:Bytes} (h:A3 w b o l) (a:Addr) (ha:∀ i,a.add i=⟨b,o+i,none⟩) (c:Nat):Lib.HoldsBytes w (.slice (some a) l.length c) l :=
 ⟨some a,c,rfl,fun h=>(by cases h),fun a' e i x hx=>(by
  obtain rfl:=bw e
  rw[ha]
  exact h i x hx)⟩
theorem sj {w:World} {b o:Nat} {l:Bytes} (h:A3 w b o l) (k:Nat):A3 w b (o+k) (l.drop k):=by
 intro i x hx
 rw[jD]at hx
 rw[lK]
 exact h (k+i) x hx
theorem Kg {w:World} {b o:Nat} {l:Bytes} (h:A3 w b o l) (k:Nat):A3 w b o (l.take k):=by
 intro i x hx
 refine h i x ?_
 rw[jE]at hx
 split at hx
 ·exact hx
 cases hx
theorem nh:prog.elem 50=5:=by kernel_rfl
theorem wO (w:World):(Go.sizeOf 5).run prog w=.ok 1 w:=by kernel_rfl
theorem DS:(prog.info? 5).map (·.size)=some 1:=by kernel_rfl
theorem Tm (b o L c k:Nat) (hk:k<L) (hc:L<=c) (W:World):(Instr.slice 50 (.slice (some ⟨b,o,none⟩) L c) (some (.int .i64 (k:Int))) none none).run prog W=.ok (.slice (some ⟨b,o+k,none⟩) (L-k) (c-k)) W:=by
 have ht:prog.underlying 50=some (.slice (prog.elem 50)):=by rw[nh];exact underlying50
 rw[run_slice_l W 50 _ _ _ ht .i64 _ (by omega) (by omega),nh,wO]
 have hne:¬ c=k:=by omega
 simp[Result.andThen,sliced,hne,addr_add]
theorem Tl (b o L c k j:Nat) (hk:k<c) (hkj:k<=j) (hj:j<=c) (W:World):(Instr.slice 50 (.slice (some ⟨b,o,none⟩) L c) (some (.int .i64 (k:Int))) (some (.int .i64 (j:Int))) none).run prog W=.ok (.slice (some ⟨b,o+k,none⟩) (j-k) (c-k)) W:=by
 have ht:prog.underlying 50=some (.slice (prog.elem 50)):=by rw[nh];exact underlying50
 rw[run_slice_lh W 50 _ _ _ ht .i64 .i64 _ _ (by omega) (by omega) (by omega),nh,wO]
 have hne:¬ c=k:=by omega
 simp[Result.andThen,sliced,hne,addr_add]
theorem Wk {w:World} {b o L c k:Nat} {l:Bytes} (h:A3 w b o l) (hL:l.length=L) (hk:k<=L) (hc:L<=c):∃ fv,Lib.HoldsBytes w fv (l.drop k)∧∀ W,(Instr.slice 50 (.slice (some ⟨b,o,none⟩) L c) (some (.int .i64 (k:Int))) none none).run prog W=.ok fv W:=by
 rcases cU k L with hlt|hge
 ·have hh:=y5 (sj h k) ⟨b,o+k,none⟩ (fun i=>addr_add _ _ _) (c-k)
  rw[ai,hL]at hh
  exact⟨_,hh,Tm b o L c k hlt hc⟩
 obtain rfl:k=L:=by omega
 have ht:prog.underlying 50=some (.slice (prog.elem 50)):=by rw[nh];exact underlying50
 have hd:l.drop k=[]:=by rw[<-hL,dh]
 rw[hd]
 refine⟨.slice (some (if c=k then⟨b,o,none⟩else(⟨b,o,none⟩:Addr).add (k*1))) 0 (c-k),⟨_,c-k,rfl,fun _=>rfl,fun a _ i x hx=>(by simp at hx)⟩,fun W=>?_⟩
 rw[run_slice_l W 50 _ _ _ ht .i64 _ (by omega) (by omega),nh,wO]
 simp only[Result.andThen,sliced]
 split <;>simp_all
def nums (l:Bytes):List Int:=l.map fun x=>(x.toNat:Int)
theorem ww (l:Bytes):(nums l).length=l.length:=aj _
theorem rj (l:Bytes):Lib.bytesOf (nums l)=l:=by
 unfold Lib.bytesOf nums
 rw[nF]
 conv=>rhs;rw[<-List.map_id l]
 exact iC fun x _=>by simp
theorem y6 {w:World} {b o:Nat} {l:Bytes} (h:A3 w b o l) (a:Addr) (ha:∀ i,a.add i=⟨b,o+i,none⟩):∀ i,i<l.length->w.cell? (a.add i)=some (.int .u8 ((nums l).getD i 0)):=by
 intro i hi
 rw[ha,h i l[i] (az hi)]
 simp[nums,List.getD,hi]
theorem Bw {w:World} {b o b2:Nat} {l:Bytes} (h:A3 w b o l) (c d:Nat) (hz:w.cell? ⟨b2,0,none⟩=some (.int .u8 0)) :
  Calls prog 113 #[.slice (some ⟨b,o,none⟩) l.length c,.slice (some ⟨b2,0,none⟩) 1 d] w fun e w'=>e=.returned (.int .i64 (l.count 0:Nat))∧w'=w:=by
 have hc:=Any.bytes_Count_one_at laysBC ⟨b,o,none⟩ l.length c b2 0 d (nums l) 0 w (ww l) (y6 h _ (fun i=>addr_add _ _ _)) hz
 rw[rj]at hc
 exact hc
theorem BD {w:World} {b o b2:Nat} {l:Bytes} (h:A3 w b o l) (c d:Nat) (hz:w.cell? ⟨b2,0,none⟩=some (.int .u8 0)) :
  Calls prog 114 #[.slice (some ⟨b,o,none⟩) l.length c,.slice (some ⟨b2,0,none⟩) 1 d] w fun e w'=>e=.returned (.int .i64 (Lib.indexByte l 0))∧w'=w:=by
 have hc:=Any.bytes_Index_one_at laysBI ⟨b,o,none⟩ l.length c b2 0 d (nums l) 0 w (ww l) (y6 h _ (fun i=>addr_add _ _ _)) hz
 rw[rj]at hc
 exact hc

theorem Bx (c:Nat) (b2 d:Nat) (w:World) (hz:w.cell? ⟨b2,0,none⟩=some (.int .u8 0)) :
  Calls prog 113 #[.slice none 0 c,.slice (some ⟨b2,0,none⟩) 1 d] w fun e w'=>e=.returned (.int .i64 0)∧w'=w:=by
 go_enter func113,ntmps113
 go_wp2
 rw[run_callFunc_extern func145 (by kernel_rfl) (by kernel_rfl) (by kernel_rfl) (e:=Extern.BytealgCount.count) (by kernel_rfl),Lib.run_countNil w 0 c 0]
 simp only[Result.andThen]
 rw[Oper.upon_value]
 go_wp2
 go_ret
 exact⟨rfl,rfl⟩
theorem ud {B:Nat} {w:World} {v:Value} {l:Bytes} (h:Sl B w v (Lib.byteCells l)):(l=[]∧∃ a c,v=.slice a 0 c)∨∃ b o c,b<B∧l.length<=c∧v=.slice (some ⟨b,o,none⟩) l.length c∧A3 w b o l:=by
 obtain⟨c,hc,_,h⟩:=h
 rw[Lib.byteCells_length]at hc
 rcases h with⟨hn,a,rfl⟩|⟨b,o,hb,rfl,ha⟩
 ·exact .inl ⟨by simpa[Lib.byteCells]using hn,a,c,rfl⟩
 exact .inr ⟨b,o,c,hb,hc,by rw[Lib.byteCells_length],Uw ha⟩
theorem A3.keep {w w':World} {b o:Nat} {l:Bytes} (h:A3 w b o l) (hk:w'.heap[b]? = w.heap[b]?):A3 w' b o l :=
 fun i x hx=>(World.cell?_of_block (w:=w) (a:=⟨b,o+i,none⟩) hk).trans (h i x hx)
theorem Gc {w:World} {v:Value} {l:Bytes} {b2:Nat} (h:Sl w.heap.size w v (Lib.byteCells l)) (d:Nat) (hz:w.cell? ⟨b2,0,none⟩=some (.int .u8 0)) :
  Calls prog 113 #[v,.slice (some ⟨b2,0,none⟩) 1 d] w fun e w'=>e=.returned (.int .i64 (l.count 0:Nat))∧w'=w:=by
 rcases ud h with⟨rfl,a,c,rfl⟩|⟨b,o,c,_,_,rfl,hb⟩
 ·cases a with
  |none=>exact Bx c b2 d w hz
  |some a=>exact Any.bytes_Count_one_at laysBC a 0 c b2 0 d [] 0 w rfl (fun i hi=>absurd hi (bE _)) hz
 exact Bw hb c d hz
theorem UF {w W:World} {N:Nat} {acc:Bytes} (b:Lib.Buf w W w.heap.size N acc) (hN:acc.length=N) (hm:N<=maxLen):Sl W.heap.size W (.slice (some ⟨w.heap.size,0,none⟩) N N) (Lib.byteCells acc):=by
 refine⟨N,by rw[Lib.byteCells_length,hN];exact ae _,hm,?_⟩
 by_cases h0:N=0
 ·subst h0
  have:acc=[]:=am hN
  subst this
  exact .inl ⟨rfl,_,rfl⟩
 refine .inr ⟨w.heap.size,0,?_,by rw[Lib.byteCells_length,hN],fun j hj=>?_⟩
 ·have:=b.there 0 (by omega)
  obtain⟨x,hx⟩:=a1e.1 this
  exact World.block_lt_of_cell? _ _ hx
 rw[Lib.byteCells_length]at hj
 rw[bk,b.holds j acc[j] (az hj)]
 simp[Lib.byteCells]
theorem N8 {l:Bytes} {st p:Nat} {A B:Bytes} (h:l.drop st=A++0::B) (hA:∀ x∈A,x≠0) (hp:A.length=p):(dI (l.take st)).length+p+3<=l.length+2*l.count 0:=by
 have h1:=(xa h hA).1
 have h2:=oG l
 have h3:(dI l).length=(dI (l.take (st+A.length+1))).length+(dI (l.drop (st+A.length+1))).length:=by
  rw[<-List.length_append,<-mK,cT]
 have h4:(dI (l.take (st+A.length+1))).length=(dI (l.take st)).length+p+3:=by
  rw[h1,af,af,hp]
  rfl
 omega
theorem xq (l:Bytes) (v nv:Value) (b2 d:Nat) (w:World) (h:Sl w.heap.size w v (Lib.byteCells l)) (hl:l.length<=1000000) (hz:w.cell? ⟨b2,0,none⟩=some (.int .u8 0)) (hn:Lib.HoldsBytes w nv gQ) :
  Calls prog 80 #[v,.slice (some ⟨b2,0,none⟩) 1 d,nv,.int .i64 (-1)] w fun e w'=>∃ v',e=.returned v'∧Sl w'.heap.size w' v' (Lib.byteCells (dI l))∧Below w.heap.size w w':=by
 obtain⟨i8,q9,vJ,jK,ky⟩:=info_parts ly
 have Rv:=h_ (Gc h d hz)
 have HNV:=h_ hn
 obtain⟨pn,cn,hnv,_⟩:=hn
 rw[show gQ.length=3 from rfl]at hnv
 subst hnv
 obtain⟨R,hR⟩:=ap (dI l)
 rw[<-hR]
 have HZ:=h_ hz
 have hbz:b2<w.heap.size:=World.block_lt_of_cell? _ _ hz
 rcases rX l with⟨h0,hne⟩|⟨A0,B0,Lz,Xa,a37,Zl⟩
 ·have HR:=h_ (show R=l by rw[hR,iT hne])
  obtain⟨v',w1,hr,ho,hg,_⟩:=mO (P:=prog) w 50 50 5 i8 underlying50 q9 vJ jK ky (.slice none 0 0) 0 [] l (World.ownsRow_nil _ _ _ _) (by omega) w.heap.size v h
  rw[h0]at Rv
  rw[bk,bW]at ho
  have HS:=h_ (Sl.bL ho)
  have HB:=h_ (show Below w.heap.size w w1 from⟨hg.os,hg.tape,hg.output,hg.size,fun k hk=>hg.block k hk (by simp[Value.ownBlock])⟩)
  have HRR:=h_ hr
  clear hr ho hg h hR hz hne h0
  go_enter func80,ntmps80
  go_wp2_with (first
   |(go_at_call 113;refine(Rv.out).mono ?_;rintro e w2 ⟨rfl,hw⟩;subst w2)
   |(at_builtin;go_must (refine fN rfl (.const (.slice none 0 0)) (.tmp 24) _ _ rfl _ _ _ _ rfl rfl HRR.out ?_))
   |fail)
  go_ret
  exact⟨v',rfl,by rw[HR.out];exact HS.out,HB.out⟩
 rcases ud h with⟨rfl,_⟩|⟨b,o,c,hb,hLc,rfl,hat⟩
 ·simp at Lz
 obtain⟨L,hL⟩:=ap (l.length)
 obtain⟨n,hn⟩:=ap (l.count 0)
 have hn1:1<=n:=by omega
 have hnL:n<=L:=by rw[hn,hL];exact List.count_le_length
 obtain⟨N,hN⟩:=ap (L+2*n)
 rw[<-hL]at hl hLc Rv ⊢
 rw[<-hn]at Rv
 obtain⟨m2,hm2⟩:∃ m:Nat,m=2*n:=⟨_,rfl⟩
 have hw1:IntKind.i64.wrap ((n:Int)*2)=(m2:Int):=by rw[IntWalk.i64_in _ (by omega)];omega
 have hw2:IntKind.i64.wrap ((L:Int)+(m2:Int))=(N:Int):=by rw[IntWalk.i64_in _ (by omega)];omega
 have hmk:=run_make (P:=prog) w 50 5 i8 (.int .u8 0) underlying50 q9 vJ .i64 .i64 (N:Int) (N:Int) (by omega) (jG _) (by rw[ky];omega) (by omega)
 rw[jK,ki]at hmk
 have HBM:=h_ (Kq w N)
 obtain⟨wm,hwm⟩:=ap (w.alloc (.cells (madeCells #[.int .u8 0] (N*1)) 5))
 have a4e:(Instr.makeSlice 50 (.int .i64 (N:Int)) (.int .i64 (N:Int))).run prog w=.ok (.slice (some ⟨w.heap.size,0,none⟩) N N) wm:=by rw[hwm];exact hmk
 rw[<-hwm]at HBM
 have hN3:N<=3000000:=by omega
 have hN1:0<N:=by omega
 have hnz:((n:Int)==0)=false:=by simp;omega
 have a85:¬ (n:Int)=0:=by omega
 have HAT:=h_ hat
 have HL:=h_ hL
 have HN:=h_ hn
 have yO:=h_ hN
 have HRR:=h_ hR
 clear hmk hwm hm2 hat h hz hL hn hN hR Lz Xa a37 Zl
 go_enter func80,ntmps80
 go_wp2_with (first
  |(go_at_call 113;refine(Rv.out).mono ?_;rintro e w2 ⟨rfl,hw⟩;subst w2)
  |fail)
 clear a4e Rv
 go_loopw [11,12,13,49] (fun wv sv _ iv wr=>∃ (k st a:Nat) (acc:Bytes),k<=n∧st<=L∧iv=.int .i64 k∧sv=.int .i64 st∧wv=.int .i64 a∧Hid (acc.length=a)∧Hid (acc=dI (l.take st))∧Hid ((l.drop st).count 0+k=n)∧Hid (Lib.Buf w wr w.heap.size N acc)) (fun _ _ _ i _=>n-(intOf i).toNat)
 case atStart=>exact⟨0,0,0,[],aO _,aO _,rfl,rfl,rfl,h_ rfl,h_ rfl,h_ (by rw[dx,<-HN.out];rfl),HBM⟩
 case round =>
  obtain⟨k,st,a,acc,hk,hst,rfl,rfl,rfl,HA,TA,HC,HB⟩:=hrel
  by_cases hkn:k<n
  ·rcases rX (l.drop st)with⟨h0,_⟩|⟨A,B,Lz,Xa,hix,hcnt⟩
   ·have:=HC.out;omega
   obtain⟨p,hp⟩:=ap (A.length)
   have hfit:=N8 Lz Xa hp.symm
   have hstep:=xa Lz Xa
   have hdl:(l.drop st).length=L-st:=by rw[ai,HL.out]
   have hpl:p+1+B.length=L-st:=by rw[<-hdl,Lz,hp];simp;omega
   have Zc:A3 _ b o l:=HAT.out.keep (HB.out.below.block b hb)
   have hzw:=(HB.out.below.cell (p:=⟨b2,0,none⟩) hbz).trans HZ.out
   have RE:=BD (sj Zc st) (c-st) d hzw
   rw[hdl,hix,<-hp]at RE
   replace RE:=h_ RE
   have FO:=h_ (show Lib.HoldsBytes w (.slice (some ⟨b,o+st,none⟩) A.length (c-st)) A by
    have e:A=(l.drop st).take A.length:=by rw[Lz,jg rfl]
    have hh:=y5 (Kg (sj HAT.out st) A.length) ⟨b,o+st,none⟩ (fun i=>addr_add _ _ _) (c-st)
    rw[<-e]at hh
    exact hh)
   rw[<-TA.out,HA.out,<-HL.out,<-HN.out,<-yO.out]at hfit
   have iU:=h_ (show acc.length+A.length<=N by rw[HA.out,<-hp];omega)
   have HP:=h_ hp.symm
   have hs1:=Tm b o L c st (by omega) hLc
   have hs2:∀ W,(Instr.slice 50 (.slice (some ⟨w.heap.size,0,none⟩) N N) (some (.int .i64 (a:Int))) none none).run prog W=.ok (Lib.tailV w.heap.size N a) W:=fun W=>Lib.run_slice_tailV W 50 5 underlying50 wO _ N a (by omega)
   obtain⟨j,hj⟩:=ap (st+p)
   have hs3:=Tl b o L c st j (by omega) (by omega) (by omega)
   rw[show j-st=p by omega]at hs3
   obtain⟨a1,ha1⟩:=ap (a+p)
   have hs4:∀ W,(Instr.slice 50 (.slice (some ⟨w.heap.size,0,none⟩) N N) (some (.int .i64 (a1:Int))) none none).run prog W=.ok (Lib.tailV w.heap.size N a1) W:=fun W=>Lib.run_slice_tailV W 50 5 underlying50 wO _ N a1 (by omega)
   have hwj:IntKind.i64.wrap ((st:Int)+(p:Int))=(j:Int):=by rw[IntWalk.i64_in _ (by omega)];omega
   have LS:IntKind.i64.wrap ((a:Int)+(p:Int))=(a1:Int):=by rw[IntWalk.i64_in _ (by omega)];omega
   obtain⟨a2,ha2⟩:=ap (a1+3)
   have a9f:IntKind.i64.wrap ((a1:Int)+3)=(a2:Int):=by rw[IntWalk.i64_in _ (by omega)];omega
   obtain⟨j1,hj1⟩:=ap (j+1)
   have a9h:IntKind.i64.wrap ((j:Int)+1)=(j1:Int):=by rw[IntWalk.i64_in _ (by omega)];omega
   have Xq:=h_ (show acc++A++gQ=dI (l.take j1) by rw[TA.out,hj1,hj,hp];exact hstep.1.symm)
   have Iz:=h_ (show(l.drop j1).count 0+(k+1)=n by
    have h2:=HC.out
    rw[hcnt]at h2
    rw[hj1,hj,hp,hstep.2]
    omega)
   have HLEN:=h_ (show(acc++A++gQ).length=a2 by rw[af,af,HA.out,<-hp,ha2,ha1];rfl)
   have a38:j1<=L:=by omega
   have Jk:=h_ (show(acc++A).length=a1 by rw[af,HA.out,<-hp,ha1])
   have OL:=h_ (show(acc++A).length+gQ.length<=N by rw[Jk.out,show gQ.length=3 from rfl];omega)
   clear hfit hstep hdl Zc hzw hix hcnt Lz Xa hp hj ha1 ha2 hj1 hpl
   go_upto_region 15 with(first
    |(go_at_call 114;refine(RE.out).mono ?_;rintro e w3 ⟨rfl,hw⟩;subst w3)
    |fail)
   refine wp_region_held_drew (S:=fun _=>True) (by kernel_rfl) (by exact trivial) (fun hHeld=>?_)
   refine tq 0 rfl ?_ (fun wS hSw=>?_) ?_
   rotate_left
   ·(try dsimp only at hSw);go_simp;first|done|with_reducible rfl
   try simp only[Act.put,aK,aL,aM]
   refine tq 1 rfl ?_ (fun wS hSw=>?_) ?_
   rotate_left
   ·(try dsimp only at hSw);go_simp;first|done|with_reducible rfl
   try simp only[Act.put,aK,aL,aM]
   refine tq 2 rfl ?_ (fun wS hSw=>?_) ?_
   rotate_left
   ·(try dsimp only at hSw);go_simp;first|done|with_reducible rfl
   try simp only[Act.put,aK,aL,aM]
   refine tq 3 rfl ?_ (fun wS hSw=>?_) ?_
   rotate_left
   ·(try dsimp only at hSw);go_simp;first|done|with_reducible rfl
   try simp only[Act.put,aK,aL,aM]
   refine tq 4 rfl ?_ (fun wS hSw=>?_) ?_
   rotate_left
   ·(try dsimp only at hSw);go_simp;first|done|with_reducible rfl
   try simp only[Act.put,aK,aL,aM]
   refine tq 5 rfl ?_ (fun wS hSw=>?_) ?_
   rotate_left
   ·(try dsimp only at hSw);go_simp;first|done|with_reducible rfl
   try simp only[Act.put,aK,aL,aM]
   refine tq 6 rfl ?_ (fun wS hSw=>?_) ?_
   rotate_left
   ·(try dsimp only at hSw);go_simp;first|done|with_reducible rfl
   try simp only[Act.put,aK,aL,aM]
   refine tq 7 rfl ?_ (fun wS hSw=>?_) ?_
   rotate_left
   ·(try dsimp only at hSw);go_simp;first|done|with_reducible rfl
   try simp only[Act.put,aK,aL,aM]
   refine rn 8 (by kernel_rfl) rfl (by rfl) (fun K hK=>?_)
   obtain⟨w2,hr2,B2⟩:=Lib.copy_part (P:=prog) w _ w.heap.size N acc A (.slice (some ⟨b,o+st,none⟩) A.length (c-st)) 50 3 5 underlying50 DS (ae _) (y9 HB.out) FO.out iU.out
   rw[HP.out,HA.out]at hr2
   refine Lib.wp_copy_run _ (.tmp 61) (.tmp 65) 50 50 rfl _ _ rfl rfl hr2 ?_
   have HB2:=h_ B2
   clear B2 hr2
   refine hK.out _ _ ?_ (fun hHeld=>?_)
   ·exact trivial
   clear hK K
   try simp only[Act.put,aK,aL,aM]
   refine tq 9 rfl ?_ (fun wS hSw=>?_) ?_
   rotate_left
   ·(try dsimp only at hSw);go_simp;first|done|with_reducible rfl
   try simp only[Act.put,aK,aL,aM]
   refine tq 10 rfl ?_ (fun wS hSw=>?_) ?_
   rotate_left
   ·(try dsimp only at hSw);go_simp;first|done|with_reducible rfl
   try simp only[Act.put,aK,aL,aM]
   refine wpAnyH_done (by kernel_rfl) ?_ _
   obtain⟨w3,hr3,B3⟩:=Lib.copy_part (P:=prog) w _ w.heap.size N (acc++A) gQ (.slice pn 3 cn) 50 3 5 underlying50 DS (ae _) HB2.out HNV.out OL.out
   rw[Jk.out,show gQ.length=3 from rfl]at hr3
   have HB3:=h_ B3
   have HR3:=h_ hr3
   clear B3 hr3
   go_wp2_with (first
    |(refine Lib.wpList_copy_run _ rfl (.tmp 71) (.tmp 72) 50 50 rfl _ _ rfl rfl HR3.out ?_)
    |fail)
   go_roundw
   case rel=>exact⟨k+1,j1,a2,acc++A++gQ,by omega,a38,by go_num,rfl,rfl,HLEN,Xq,Iz,HB3⟩
   case measure=>simp[intOf];omega
  obtain rfl:k=n:=by omega
  rcases rX (l.drop st)with⟨_,hne⟩|⟨A,B,Lz,Xa,hix,hcnt⟩
  rotate_left
  ·have:=HC.out;omega
  have u5:=h_ (show R=acc++l.drop st by rw[HRR.out,TA.out];exact N7 hne)
  have hRl:R.length=N:=by rw[HRR.out,oG,<-HN.out,<-HL.out,yO.out]
  obtain⟨fv,hfv,hsf⟩:=Wk HAT.out HL.out.symm hst hLc
  have hs2:∀ W,(Instr.slice 50 (.slice (some ⟨w.heap.size,0,none⟩) N N) (some (.int .i64 (a:Int))) none none).run prog W=.ok (Lib.tailV w.heap.size N a) W:=fun W=>Lib.run_slice_tailV W 50 5 underlying50 wO _ N a (by have h1:=u5.out;rw[h1,af,HA.out]at hRl;omega)
  have hs5:∀ W,(Instr.slice 50 (.slice (some ⟨w.heap.size,0,none⟩) N N) (some (.int .i64 0)) (some (.int .i64 (N:Int))) none).run prog W=.ok (.slice (some ⟨w.heap.size,0,none⟩) N N) W:=Tl w.heap.size 0 N N 0 N hN1 (aO _) (ae _)
  obtain⟨q,hq⟩:=ap ((l.drop st).length)
  have haq:a+q=N:=by have h1:=u5.out;rw[h1,af,HA.out,<-hq]at hRl;exact hRl
  have hwq:IntKind.i64.wrap ((a:Int)+(q:Int))=(N:Int):=by rw[IntWalk.i64_in _ (by omega)];omega
  have HFV:=h_ hfv
  have HQ:=h_ hq.symm
  have iU:=h_ (show acc.length+(l.drop st).length<=N by rw[HA.out,<-hq];omega)
  have Bg:=h_ (show(acc++l.drop st).length=N by rw[<-u5.out];exact hRl)
  clear hfv hq hRl hne haq
  go_upto_region 28 with fail
  refine wp_region_held_drew (S:=fun _=>True) (by kernel_rfl) (by exact trivial) (fun hHeld=>?_)
  refine tq 0 rfl ?_ (fun wS hSw=>?_) ?_
  rotate_left
  ·(try dsimp only at hSw);go_simp;first|done|with_reducible rfl
  try simp only[Act.put,aK,aL,aM]
  refine tq 1 rfl ?_ (fun wS hSw=>?_) ?_
  rotate_left
  ·(try dsimp only at hSw);go_simp;first|done|with_reducible rfl
  try simp only[Act.put,aK,aL,aM]
  refine tq 2 rfl ?_ (fun wS hSw=>?_) ?_
  rotate_left
  ·(try dsimp only at hSw);go_simp;first|done|with_reducible rfl
  try simp only[Act.put,aK,aL,aM]
  refine tq 3 rfl ?_ (fun wS hSw=>?_) ?_
  rotate_left
  ·(try dsimp only at hSw);go_simp;first|done|with_reducible rfl
  try simp only[Act.put,aK,aL,aM]
  refine tq 4 rfl ?_ (fun wS hSw=>?_) ?_
  rotate_left
  ·(try dsimp only at hSw);go_simp;first|done|with_reducible rfl
  try simp only[Act.put,aK,aL,aM]
  refine tq 5 rfl ?_ (fun wS hSw=>?_) ?_
  rotate_left
  ·(try dsimp only at hSw);go_simp;first|done|with_reducible rfl
  try simp only[Act.put,aK,aL,aM]
  refine tq 6 rfl ?_ (fun wS hSw=>?_) ?_
  rotate_left
  ·(try dsimp only at hSw);go_simp;first|done|with_reducible rfl
  try simp only[Act.put,aK,aL,aM]
  refine rn 7 (by kernel_rfl) rfl (by rfl) (fun K hK=>?_)
  obtain⟨w2,hr2,B2⟩:=Lib.copy_part (P:=prog) w _ w.heap.size N acc (l.drop st) fv 50 3 5 underlying50 DS (ae _) (y9 HB.out) HFV.out iU.out
  rw[HQ.out,HA.out]at hr2
  refine Lib.wp_copy_run _ (.tmp 123) (.tmp 126) 50 50 rfl _ _ rfl rfl hr2 ?_
  have HB2:=h_ B2
  clear B2 hr2
  refine hK.out _ _ ?_ (fun hHeld=>?_)
  ·exact trivial
  clear hK K
  try simp only[Act.put,aK,aL,aM]
  refine tq 8 rfl ?_ (fun wS hSw=>?_) ?_
  rotate_left
  ·(try dsimp only at hSw);go_simp;first|done|with_reducible rfl
  try simp only[Act.put,aK,aL,aM]
  refine tq 9 rfl ?_ (fun wS hSw=>?_) ?_
  rotate_left
  ·(try dsimp only at hSw);go_simp;first|done|with_reducible rfl
  try simp only[Act.put,aK,aL,aM]
  refine wpAnyH_done (by kernel_rfl) ?_ _
  go_wp2_with fail
  go_ret
  exact⟨_,rfl,by rw[u5.out];exact UF HB2.out Bg.out (by unfold maxLen;omega),HB2.out.below⟩
end Go.Proofs.YtmndlfglgcioeaaGreatDoor
set_option maxHeartbeats 40000000
namespace Go.Proofs.YtmndlfglgcioeaaGreatDoor
open Tryz
open Go.RowKit
set_option maxRecDepth 10000
theorem yl (l:Bytes) (w:World) (hl:l.length<=maxLen):∃ v' w',(convert 9 50 (S l)).run prog w=.ok v' w'∧Sl w'.heap.size w' v' (Lib.byteCells l)∧Lib.HoldsBytes w' v' l∧Below w.heap.size w w':=by
 have hr:=run_bytes_of_string (P:=prog) w 9 50 5 (bs l) underlying9 underlying50 underlying5
 have hge:=grownCap_ge w (bs l).size 0 5
 have hle:=grownCap_le_maxLen w (bs l).size 0 5 (by rw[aB];exact hl)
 obtain⟨cap,hcap⟩:=ap (grownCap w (bs l).size 0 5)
 rw[<-hcap]at hr hge hle
 rw[aB]at hge
 have hcell:∀ (fr:Nat×Nat) (i:Nat) x,l[i]? = some x->(w.drew.alloc (.cells (bytesRow (bs l) cap) 5 fr)).cell? ⟨w.heap.size,0+i,none⟩=some (.int .u8 (x.toNat:Int)):=by
  intro fr i x hx
  have hi:=(be.1 hx).1
  have h2:(bytesRow (bs l) cap)[i]? = some (.int .u8 (x.toNat:Int)):=by
   unfold bytesRow
   rw[WH (by simp;exact hi)]
   have h3:(bs l).data[i]? = some x:=by
    rw[<-Array.getElem?_toList,show(bs l).data.toList=l from du l]
    exact hx
   simp[h3]
  rw[bk]
  have h4:(w.drew.alloc (.cells (bytesRow (bs l) cap) 5 fr)).heap[w.heap.size]? = some (.cells (bytesRow (bs l) cap) 5 fr):=by
   exact heap_alloc_new w.drew _
  unfold World.cell?
  simp only[h4]
  exact h2
 rw[aB]at hr
 refine⟨_,_,hr,?_,?_,(Below.refl _ _).drew.alloc (ae _) _⟩
 ·refine⟨cap,by rw[Lib.byteCells_length];exact hge,hle,.inr ⟨w.heap.size,0,by simp,by rw[Lib.byteCells_length],fun j hj=>?_⟩⟩
  rw[Lib.byteCells_length]at hj
  rw[hcell _ j l[j] (az hj)]
  simp[Lib.byteCells]
 refine⟨some ⟨w.heap.size,0,none⟩,cap,rfl,fun h=>(by cases h),fun a e i x hx=>?_⟩
 obtain rfl:=bw e
 rw[addr_add]
 exact hcell _ i x hx
section
variable {ops:Array Oper} {rest:List Oper} {o:Oper} {a:Act} {w:World} {Q:Exit->Act->World->Prop}
theorem sw (hg:o.guard=none) (src dst:TypeId) (x:Operand) (ho:o.op=.convert src dst x) (v:Value) (hx:a.eval x=v) {v':Value} {w':World} (hr:(convert src dst v).run prog w=.ok v' w') (h:wpList prog ops Q rest (a.put o.dst v') w'):wpList prog ops Q (o::rest) a w:=by
 refine wpList_plain hg fun K hK=>?_
 unfold Oper.wp execOp
 simp only[ho,hx,Sem.run_bind,Sem.run_pure,Result.andThen_ok,hr]
 exact hK _ _ h
end
theorem rz (l:Bytes) (v nv:Value) (b2 d:Nat) (w:World) (h:Sl w.heap.size w v (Lib.byteCells l)) (hl:l.length<=1000000) (hz:w.cell? ⟨b2,0,none⟩=some (.int .u8 0)) (hn:Lib.HoldsBytes w nv gQ) :
  Calls prog 44 #[v,.slice (some ⟨b2,0,none⟩) 1 d,nv] w fun e w'=>∃ v',e=.returned v'∧Sl w'.heap.size w' v' (Lib.byteCells (dI l))∧Below w.heap.size w w':=by
 have HR:=h_ (xq l v nv b2 d w h hl hz hn)
 clear h hz hn
 go_enter func44,ntmps44
 go_wp2_with (first
  |(go_at_call 80;refine(HR.out).mono ?_;rintro e w2 ⟨v2,rfl,hs2,hb2⟩;have HS2:=h_ hs2;have HB2:=h_ hb2;clear hs2 hb2)
  |fail)
 go_ret
 exact⟨v2,rfl,HS2.out,HB2.out⟩
theorem Id (w:World):Calls prog 45 #[.int .i64 65533] w fun e w'=>e=.returned (S gQ)∧w=w':=by
 have h:=eU 65533 w
 rw[oZ]at h
 exact h
theorem jc (l:Bytes) (v:Value) (w:World) (h:Sl w.heap.size w v (Lib.byteCells l)) (hl:l.length<=100000) (hE:Env w) :
  Calls prog 17 #[v] w fun e w'=>e=.returned (S (jz l))∧Below w.heap.size w w':=by
 have HH:=h_ h
 have HE:=h_ hE.1
 have hz3:=uC l
 have hd3:=ks _ (dI l) (ae _)
 have HLD:=h_ (show(jH (dI l)).length<=1000000 by omega)
 have HLZ:=h_ (show(dI l).length<=1000000 by omega)
 have HL:=h_ (show l.length<=1000000 by omega)
 obtain⟨R,hR⟩:=ap (jz l)
 rw[<-hR]
 have HR:=h_ (show R=fw (jH (dI l))from hR)
 have hbs:∀ W,(Instr.buildSlice 50 1 #[(0,.int .u8 0)]).run prog W=.ok (.slice (some ⟨W.heap.size,0,none⟩) 1 1) (W.alloc (.cells #[.int .u8 0] 5)):=fun W=>by kernel_rfl
 have yz:=h_ hbs
 clear h hE hz3 hd3 hR hbs hl
 go_enter func17,ntmps17
 go_upto_region 1 with fail
 have hz2:(w.alloc (.cells #[.int .u8 0] 5)).cell? ⟨w.heap.size,0,none⟩=some (.int .u8 0):=by rw[World.cell?_alloc_mark];rfl
 have hb2:Below w.heap.size w (w.alloc (.cells #[.int .u8 0] 5)):=(Below.refl _ _).alloc (ae _) _
 obtain⟨w2,hw2⟩:=ap (w.alloc (.cells #[.int .u8 0] 5))
 rw[<-hw2]at hz2 hb2
 obtain⟨nv,w3,hr3,_,EN,hb3⟩:=yl gQ w2 (by decide)
 have hz3:=(hb3.cell (p:=⟨w.heap.size,0,none⟩) (World.block_lt_of_cell? _ _ hz2)).trans hz2
 have PT:=hb2.trans (hb3.mono hb2.size)
 have cX:=h_ (rz l v nv w.heap.size 1 w3 ((HH.out.below PT).more PT.size) HL.out hz3 EN)
 have HB3:=h_ PT
 have HW2:=h_ hw2
 have HR3:=h_ hr3
 clear hz3 PT hb3 EN hr3 hz2 hb2 hw2
 go_upto_region 2 with(first
  |(refine vo rfl 50 1 #[(0,.const (.int .u8 0))] rfl (.slice (some ⟨w.heap.size,0,none⟩) 1 1) w2 #[(0,.int .u8 0)] (by simp only[dj,cO,eC];rfl) (by rw[HW2.out];exact yz.out w) ?_)
  |(go_at_call 45;refine(Id _).mono ?_;rintro e w4 ⟨rfl,hw4⟩;subst w4)
  |(refine sw rfl 9 50 (.tmp 5) rfl _ rfl HR3.out ?_)
  |(go_at_call 44;refine(cX.out).mono ?_;rintro e w4 ⟨v4,rfl,hs4,hb4⟩;have HS4:=h_ hs4;have eZ:=h_ (HB3.out.trans (hb4.mono HB3.out.size));clear hs4 hb4)
  |fail)
 clear cX HR3 HW2 yz
 go_wp2_with (first
  |(go_at_call 20;refine(nW (dI l) v4 _ HS4.out (aq HLZ.out (by decide)) (HE.out.below eZ.out)).mono ?_;rintro e w5 ⟨rfl,hb5⟩;have fK:=h_ (eZ.out.trans (hb5.mono eZ.out.size));clear hb5)
  |(go_at_call 46;refine(zu (jH (dI l)) _ HLD.out).mono ?_;rintro e w6 ⟨rfl,hb6⟩;have jB:=h_ (fK.out.trans (hb6.mono fK.out.size));clear hb6)
  |fail)
 go_ret
 exact⟨by rw[HR.out];rfl,jB.out⟩
end Go.Proofs.YtmndlfglgcioeaaGreatDoor
set_option maxHeartbeats 40000000
namespace Go.Proofs.YtmndlfglgcioeaaGreatDoor
open Tryz
open Go.RowKit
set_option maxRecDepth 10000
theorem mY (kind:Int) (bu:Url) (bv:Value) (s:Bytes) (w:World) (h8:bu.host.six.length=8) (hbv:Sl w.heap.size w bv (bu.path.map S)) (hbs:Bs bu.path) (hs:s.length<=1000000) (hE:Env w) :
  Calls prog 11 #[.int .i64 kind,.agg (ah bv bu),.string (bs s)] w (eE w (rG kind bu s)):=by
 by_cases h1:kind=1
 ·subst h1
  exact vK bu bv s w h8 hbv hbs (by omega) hE
 by_cases h2:kind=2
 ·subst h2
  exact vL bu bv s w h8 hbv hbs hs hE
 by_cases h3:kind=3
 ·subst h3
  cases hr:uU s with
  |none=>exact GX s hr bu bv w h8 hbv hbs hs hE
  |some r =>
   obtain⟨dl,h,ur⟩:=r
   cases h with
   |true=>exact GY s dl ur hr bu bv w h8 hbv hbs hs hE
   |false=>exact CO s dl ur hr bu bv w h8 hbv hbs hs hE
 have:rG kind bu s=⟨[],[]⟩:=by unfold rG;rw[if_neg h1,if_neg h2,if_neg h3]
 rw[this]
 exact rc kind h1 h2 h3 bu bv (bs s) w
theorem a0G (w:World) (bv:Value) (u:Url):∃ W,(w.alloc (.cells (ah bv u) 30)).alloc (.cells (bj aD []) 35)=W∧CB W w.heap.size 30 (ah bv u)∧OB w (w.heap.size+1) 35 (bj aD []) W:=by
 have hx:=CB.new w 30 (ah bv u)
 have hb:=(Below.refl w.heap.size w).alloc (ae _) (.cells (ah bv u) 30)
 obtain⟨w1,hw1⟩:=ap (w.alloc (.cells (ah bv u) 30))
 have hz1:w1.heap.size=w.heap.size+1:=by rw[hw1];simp
 rw[<-hw1]at hx hb ⊢
 have hy:=CB.new w1 35 (bj aD [])
 have hb2:=(Below.refl w1.heap.size w1).alloc (ae _) (.cells (bj aD []) 35)
 rw[hz1]at hy
 exact⟨_,rfl,hx.keep hb2,OB.of hy (fb _) (fJ hb hb2)⟩
theorem Nk {v:Value} {d:Bytes} (h1:v.oneCell'=true):∀ u ∈ [v,S d],u.oneCell'=true:=by
 intro u hu
 simp only[aN,ci,or_false]at hu
 rcases hu with rfl|rfl
 ·exact h1
 rfl
theorem jY (kind:Int) (bu:Url) (bv:Value) (l:Bytes) (v:Value) (w:World) (h8:bu.host.six.length=8) (hbv:Sl w.heap.size w bv (bu.path.map S)) (hbs:Bs bu.path) (h:Sl w.heap.size w v (Lib.byteCells l)) (hl:l.length<=10000) (hE:Env w) :
  Calls prog 19 #[.int .i64 kind,.agg (ah bv bu),v] w (eE w (rG kind bu (jz l))):=by
 have hvl:(jz l).length<=1000000:=by
  have h1:=uC l
  have h2:=ks _ (dI l) (ae _)
  have h3:=rU _ (jH (dI l)) (ae _)
  unfold jz
  omega
 obtain⟨R,hR⟩:=ap (rG kind bu (jz l))
 obtain⟨t,ht⟩:=ap (bs (jz l))
 have Ea:=h_ (fun W (hb:Below w.heap.size w W)=>(show Calls prog 17 #[v] W fun e w'=>e=.returned (.string t)∧Below W.heap.size W w' from by rw[ht];exact jc l v W ((h.below hb).more hb.size) (by omega) (hE.below hb)))
 have HIT:=h_ (fun W (hb:Below w.heap.size w W)=>(show Calls prog 11 #[.int .i64 kind,.agg (ah bv bu),.string t] W (eE W R)from by rw[ht,hR];exact mY kind bu bv (jz l) W h8 ((hbv.below hb).more hb.size) hbs hvl (hE.below hb)))
 have H8:=h_ h8
 have u7:=h_ (show(prog.info? 30).map (·.size)=some (ah bv bu).size by rw[eL h8];exact dq)
 rw[<-hR]
 clear hvl hR ht h8 hbv hbs h hl hE
 obtain⟨W2,hw2,k1,k2⟩:=a0G w bv bu
 have K1:=h_ k1;have K2:=h_ k2;have HW2:=h_ hw2
 clear k1 k2 hw2
 go_enter func19,ntmps19
 go_upto_region 1 with(first
  |((with_reducible refine dZ ?_);refine aE rfl 35 rfl _ _ (ji _) ?_)
  |fail)
 rw[HW2.out]
 have C1:=h_ (K1.out.keep (aJ (aG _)))
 have I1:=h_ (K2.out.below (aJ (aG _)))
 refine wp_region_held_drew (S:=fun W=>CB W w.heap.size 30 (ah bv bu)) (by kernel_rfl) (by with_reducible first|exact C5.out|exact C4.out|exact C3.out|exact C2.out|exact C1.out) (fun hHeld=>?_)
 refine tq 0 rfl ?_ (fun wS hSw=>?_) ?_
 rotate_left
 ·(try dsimp only at hSw);go_simp;first|done|with_reducible rfl
 try simp only[Act.put,aK,aL,aM]
 refine tq 1 rfl ?_ (fun wS hSw=>?_) ?_
 rotate_left
 ·(try dsimp only at hSw)
  refine cq 30 (.tmp 4) ?_ w.heap.size (ah bv bu) _ underlying30 rfl u7.out ?_ ?_
  ·rfl
  ·rfl
  exact hSw
 try simp only[Act.put,aK,aL,aM]
 refine tq 2 rfl ?_ (fun wS hSw=>?_) ?_
 rotate_left
 ·(try dsimp only at hSw);go_simp;first|done|with_reducible rfl
 try simp only[Act.put,aK,aL,aM]
 refine rn 3 (by kernel_rfl) rfl (by rfl) (fun K hK=>?_)
 go_simp
 refine(Ea.out _ I1.out.bq).mono ?_
 rintro e w2 ⟨rfl,hb⟩
 have C2:=h_ (C1.out.keep hb);have I2:=h_ (I1.out.below hb)
 clear hb
 refine hK.out _ _ ?_ (fun hHeld=>?_)
 ·with_reducible first|exact C5.out|exact C4.out|exact C3.out|exact C2.out|exact C1.out
 clear hK K
 try simp only[Act.put,aK,aL,aM]
 refine rn 4 (by kernel_rfl) rfl (by rfl) (fun K hK=>?_)
 go_simp
 refine(HIT.out _ I2.out.bq).mono ?_
 rintro e w3 ⟨v3,rfl,ir,hb⟩
 have C3:=h_ (C2.out.keep hb);have I3:=h_ (I2.out.below hb);have IR3:=h_ ir
 clear hb ir
 refine hK.out _ _ ?_ (fun hHeld=>?_)
 ·with_reducible first|exact C5.out|exact C4.out|exact C3.out|exact C2.out|exact C1.out
 clear hK K
 try simp only[Act.put,aK,aL,aM]
 refine rn 5 (by kernel_rfl) rfl (by rfl) (fun K hK=>?_)
 refine g9 35 (.tmp 6) (.tmp 11) rfl w (w.heap.size+1) 35 (bj aD []) I3.out 0 [v3,S R.delay] rfl rfl (bA rfl) pE (Nk (dU.one' IR3.out)) (bj v3 R.delay) rfl ?_
 intro w5 i5 t5
 have I5:=h_ i5;have C5:=h_ (t5.cb C3.out (cj (bB _)));have FT:=h_ (IR3.out.tn t5 I2.out.lt)
 clear i5 t5
 refine hK.out _ _ ?_ (fun hHeld=>?_)
 ·with_reducible first|exact C5.out|exact C4.out|exact C3.out|exact C2.out|exact C1.out
 clear hK K
 try simp only[Act.put]
 refine wpAnyH_done (by kernel_rfl) ?_ _
 go_wp2_with fail
 exact tP results19 rfl I5.out ⟨v3,rfl,FT.out.base I2.out.bq.size,I5.out.bq⟩
end Go.Proofs.YtmndlfglgcioeaaGreatDoor
set_option maxHeartbeats 40000000
namespace Go.Proofs.YtmndlfglgcioeaaGreatDoor
open Tryz
open Go.RowKit
set_option maxRecDepth 10000
theorem dU.open {W:World} {base:Nat} {v:Value} {l:List gG} (c:dU W base v l) (hl:l ≠ []):∃ g cap,v=.slice (some ⟨g,0,none⟩) l.length cap∧base<=g∧∀ k (hk:k<l.length),∃pv wv,
  (∀j x,(cV pv wv l[k])[j]? = some x->W.cell? ⟨g,k*25+j,none⟩=some x)∧lY W base ((pv,wv),l[k]):=by
 obtain⟨ps,rfl,h2,h3⟩:=c
 rcases h2.2 with⟨rfl,h0⟩|⟨g,cap,cur,rfl,hg,_⟩
 ·have:ps=[]:=am h0
  subst this
  exact absurd rfl hl
 refine⟨g,cap,by rw[aj],hg,fun k hk=>?_⟩
 have hk':k<ps.length:=by simpa using hk
 have hp:=h3 ps[k] (bJ hk')
 refine⟨ps[k].1.1,ps[k].1.2,fun j x hj=>?_,?_⟩
 ·rw[bQ]at hj
  have Vu:j<25:=by
   have:=(be.1 hj).1
   rw[kz hp.six]at this
   exact this
  have hf:=rV Xh 25 ps (fun p hp=>kz (h3 p hp).six) k j hk' Vu
  have:=h2.cells (g:=g) rfl (k*25+j) x (hf.trans hj)
  rw[addr_add,bk]at this
  exact this
 rw[bQ]
 exact hp
theorem gp {pv wv:Value} {i:gG}:(cV pv wv i)[0]? = some (.bool i.right):=rfl
theorem VT {pv wv:Value} {i:gG}:(cV pv wv i)[1]? = some (S i.url.aC):=rfl
theorem xS {pv wv:Value} {i:gG} (h:i.url.host.six.length=8):(cV pv wv i)[24]? = some wv:=by
 unfold cV
 rw[bZ,cu (by rw[gg h];omega),gg h]
 rfl
theorem ot {pv wv:Value} {i:gG} {j:Nat} {x:Value} (h:(bH pv i.url)[j]? = some x):(cV pv wv i)[1+j]? = some x:=by
 have hl:=(be.1 h).1
 rw[Nat.add_comm]
 unfold cV
 rw[bZ,cG hl]
 exact h
theorem E8 (C:Array Value) (n:Nat) (w:World):(convert 50 50 (.slice (some ⟨w.heap.size,0,none⟩) n n)).run prog (w.alloc (.cells C 5))=.ok (.slice (some ⟨w.heap.size,0,none⟩) n n) (w.alloc (.cells C 5 (C.size,C.size+1))) :=
 Lib.run_convert_bytes_const w _ _ C n n underlying50 underlying5
theorem MC (l:Bytes) (w:World) (hl:l.length<=maxLen) (fr:Nat×Nat):Sl (w.alloc (.cells (Lib.byteCells l).toArray 5 fr)).heap.size (w.alloc (.cells (Lib.byteCells l).toArray 5 fr)) (.slice (some ⟨w.heap.size,0,none⟩) l.length l.length) (Lib.byteCells l):=by
 refine⟨l.length,by rw[Lib.byteCells_length];exact ae _,hl,.inr ⟨w.heap.size,0,by simp,by rw[Lib.byteCells_length],fun j hj=>?_⟩⟩
 have h4:(w.alloc (.cells (Lib.byteCells l).toArray 5 fr)).heap[w.heap.size]? = some (.cells (Lib.byteCells l).toArray 5 fr):=heap_alloc_new w _
 unfold World.cell?
 simp only[h4,bk]
 rw[bY,az hj]
 rfl
section
variable {ops:Array Oper} {rest:List Oper} {o o2:Oper} {a:Act} {w:World} {Q:Exit->Act->World->Prop}
theorem Qk (hg:o.guard=none) (n:Nat) (parts:Array (Nat×Operand)) (ho:o.op=.buildSlice 50 n parts) (xs:Array (Nat×Value)) (hx:parts.map (fun(i,x)=>(i,a.eval x))=xs) (l:Bytes) (hl:l.length=n) (hn:n<=1000)
  (hr:∀ w,(Instr.buildSlice 50 n xs).run prog w=.ok (.slice (some ⟨w.heap.size,0,none⟩) n n) (w.alloc (.cells (Lib.byteCells l).toArray 5)))
  (hg2:o2.guard=none) (x:Operand) (ho2:o2.op=.convert 50 50 x) (hx2:∀ v,(a.put o.dst v).eval x=v)
  (h:∀ v w',Sl w'.heap.size w' v (Lib.byteCells l)->Below w.heap.size w w'->wpList prog ops Q rest ((a.put o.dst v).put o2.dst v) w'):wpList prog ops Q (o::o2::rest) a w:=by
 refine vo hg _ n parts ho _ _ xs hx (hr w) ?_
 refine sw hg2 _ _ x ho2 _ (hx2 _) (E8 _ n w) ?_
 refine h _ _ ?_ ((Below.refl _ _).alloc (ae _) _)
 subst hl
 exact MC l w (by unfold maxLen;omega) _
end

theorem jw (u:Url) (pu pv:Value) (w:World) (h8:u.host.six.length=8) (hl:u.path.length<=1024000000) (h:Sl w.heap.size w pu (u.path.map S)) (k:Sl w.heap.size w pv (u.path.map S)) :
    Calls prog 14 #[.agg (ah pu u),.agg (ah pv u)] w fun e w'=>e=.returned (.bool true)∧Below w.heap.size w w':=by
  refine(Nx u u pu pv w (B:=w.heap.size) (C:=w.heap.size) h8 h8 h k (ae _) (ae _) hl hl).mono ?_
  rintro e w' ⟨q,rfl,hq,hb⟩
  rw[hq.mpr rfl]
  exact⟨rfl,hb⟩
theorem Ql:∀ w,(Instr.buildSlice 50 8 #[(0,.int .u8 38),(1,.int .u8 35),(2,.int .u8 49),(3,.int .u8 50),(4,.int .u8 48),(5,.int .u8 59),(6,.int .u8 58),(7,.int .u8 121)]).run prog w=.ok (.slice (some ⟨w.heap.size,0,none⟩) 8 8) (w.alloc (.cells (Lib.byteCells Q0).toArray 5)):=fun w=>by kernel_rfl
theorem Qm:∀ w,(Instr.buildSlice 50 19 #[(0,.int .u8 99),(1,.int .u8 32),(2,.int .u8 49),(3,.int .u8 120),(4,.int .u8 44),(5,.int .u8 32),(6,.int .u8 104),(7,.int .u8 116),(8,.int .u8 116),(9,.int .u8 112),(10,.int .u8 58),(11,.int .u8 47),(12,.int .u8 47),(13,.int .u8 97),(14,.int .u8 58),(15,.int .u8 98),(16,.int .u8 44),(17,.int .u8 32),(18,.int .u8 100)]).run prog w=.ok (.slice (some ⟨w.heap.size,0,none⟩) 19 19) (w.alloc (.cells (Lib.byteCells Q5).toArray 5)):=fun w=>by kernel_rfl
theorem Qn:∀ w,(Instr.buildSlice 50 1 #[(0,.int .u8 53)]).run prog w=.ok (.slice (some ⟨w.heap.size,0,none⟩) 1 1) (w.alloc (.cells (Lib.byteCells Q7).toArray 5)):=fun w=>by kernel_rfl
theorem Qo:∀ w,(Instr.buildSlice 50 1 #[(0,.int .u8 120)]).run prog w=.ok (.slice (some ⟨w.heap.size,0,none⟩) 1 1) (w.alloc (.cells (Lib.byteCells Q8).toArray 5)):=fun w=>by kernel_rfl
theorem Qp:∀ w,(Instr.buildSlice 50 17 #[(0,.int .u8 97),(1,.int .u8 0),(2,.int .u8 255),(3,.int .u8 38),(4,.int .u8 97),(5,.int .u8 109),(6,.int .u8 112),(7,.int .u8 59),(8,.int .u8 38),(9,.int .u8 35),(10,.int .u8 51),(11,.int .u8 56),(12,.int .u8 59),(13,.int .u8 97),(14,.int .u8 109),(15,.int .u8 112),(16,.int .u8 59)]).run prog w=.ok (.slice (some ⟨w.heap.size,0,none⟩) 17 17) (w.alloc (.cells (Lib.byteCells ny).toArray 5)):=fun w=>by kernel_rfl
theorem Yr:∀ w:World,(Instr.buildSlice 28 1 #[(0,S [49,120])]).run prog w=.ok (.slice (some ⟨w.heap.size,0,none⟩) 1 1) (w.alloc (.cells #[S [49,120]] 9)):=fun w=>Sz _ w
section
variable {ops:Array Oper} {rest:List Oper} {o:Oper} {a:Act} {w:World} {Q:Exit->Act->World->Prop}
theorem re {W:World} (hgd:o.guard=none) (x y:Operand) (ho:o.op=.store 35 x y) (v:Value) (d:Bytes) (h1:v.oneCell'=true) (hW:W=w.alloc (.cells (bj aD []) 35)) (hx:a.eval x=.pointer (some ⟨w.heap.size,0,none⟩)) (hy:a.eval y=.agg (bj v d))
    (k:∀ w',CB w' w.heap.size 35 (bj v d)->Below w.heap.size w w'->wpList prog ops Q rest (a.put o.dst undef) w'):wpList prog ops Q (o::rest) a W :=
  kf hgd _ x y ho (bj v d) (bj aD []) pE rfl (all_oneCell_toArray (Nk h1)) hW hx hy k
theorem sr {K:Act->World->Prop} (t:TypeId) (n:Nat) (parts:Array (Nat×Operand)) (ho:o.op=.buildSlice t n parts) (v:Value) (w':World) (xs:Array (Nat×Value)) (hx:parts.map (fun(i,x)=>(i,a.eval x))=xs) (hr:(Instr.buildSlice t n xs).run prog w=.ok v w') (h:K (a.put o.dst v) w'):Oper.wp prog o a w K Q:=by
  subst hx
  unfold Oper.wp execOp
  simp only[ho,Sem.run_bind,Sem.run_pure,Result.andThen_ok,hr]
  exact h
theorem mf {K:Act->World->Prop} (src dst:TypeId) (x:Operand) (ho:o.op=.convert src dst x) (v:Value) (hx:a.eval x=v) {v':Value} {w':World} (hr:(convert src dst v).run prog w=.ok v' w') (h:K (a.put o.dst v') w'):Oper.wp prog o a w K Q:=by
  unfold Oper.wp execOp
  simp only[ho,hx,Sem.run_bind,Sem.run_pure,Result.andThen_ok,hr]
  exact h
theorem Ls (hg:Region.wanted o (yielded ops a.tmps)=true) (x:Operand) (ho:o.op=.load 30 x) (b k:Nat) (pv:Value) (u:Url) (h8:u.host.six.length=8) (hx:a.eval x=.pointer (some ⟨b,k,none⟩)) (hr:w.rangeAt b k (bH pv u))
    (K:wpList prog ops Q rest (a.put o.dst (.agg (ah pv u))) w):wpList prog ops Q (o::rest) a w :=
  wT hg (.agg (ah pv u)) (dM 30 x ho b k (bH pv u) _ underlying30 rfl (by rw[dq,gg h8]) hx hr) K
end
theorem ii (w:World) (hE:Env w):Calls prog 9 #[] w fun e w'=>e=.returned (.bool true)∧Below w.heap.size w w':=by
  have hp:=uw [104,116,116,112,58,47,47,104,47,97,47,98] w (by decide) hE
  rw[srP]at hp
  have HP:=h_ (show Calls prog 28 #[.string ⟨#[104,116,116,112,58,47,47,104,47,97,47,98]⟩] w fun e w'=>∃ pv,e=.returned (.tuple #[.agg (ah pv oC),.bool true])∧w'.ownsRow w.heap.size 9 1 pv oC.path.length (Strs oC.path)∧Below w.heap.size w w' from hp)
  have HR:=h_ (fun(k:Int) (l:Bytes) (r:Rd) (hr:rG k oC (jz l)=r) (hl:l.length<=10000) (pv v:Value) (W:World) (hb:Below w.heap.size w W) (hpv:Sl W.heap.size W pv (oC.path.map S)) (hv:Sl W.heap.size W v (Lib.byteCells l))=>(show Calls prog 19 #[.int .i64 k,.agg (ah pv oC),v] W (eE W r)from by
    rw[<-hr]
    exact jY k oC pv l v W rfl hpv a0B.b hv hl (hE.below hb)))
  have Ea:=h_ (fun(v:Value) (W:World) (hb:Below w.heap.size w W) (hv:Sl W.heap.size W v (Lib.byteCells ny))=>(show Calls prog 17 #[v] W fun e w'=>e=.returned (.string ⟨#[97,239,191,189,239,191,189,38,38,97,109,112,59]⟩)∧Below W.heap.size W w' from by
    have h:=jc ny v W hv (by decide) (hE.below hb)
    rw[a4S]at h
    exact h))
  clear hp hE
  go_enter func9,ntmps9
  go_upto_region 4 with(first
    |(go_at_call 28;refine(HP.out).mono ?_;rintro e w1 ⟨pv,rfl,oo,hb⟩;have O1:=h_ oo;have B1:=h_ hb;clear oo hb)
    |((with_reducible refine dZ ?_);refine aE rfl 30 rfl _ _ (cD _) ?_;refine cN rfl (.tmp 1) (.tmp 9) rfl pv oC rfl (aS O1.out) rfl rfl rfl ?_;intro w2 h2 hb;have U2:=h_ h2;have B2:=h_ (B1.out.trans (hb.mono B1.out.size));have O2:=h_ (own_below' O1.out hb);clear h2 hb)
    |fail)
  clear B1 O1 HP
  obtain⟨g1,hg1⟩:=ap (w1.heap.size)
  rw[<-hg1]at U2 ⊢
  clear hg1
  go_upto_region 5 with(first
    |((with_reducible refine dZ ?_);refine dB (by rfl) (.tmp 1) rfl _ pv oC rfl rfl U2.out ?_)
    |((with_reducible refine dZ ?_);refine Qk rfl 8 #[(0,.const (.int .u8 38)),(1,.const (.int .u8 35)),(2,.const (.int .u8 49)),(3,.const (.int .u8 50)),(4,.const (.int .u8 48)),(5,.const (.int .u8 59)),(6,.const (.int .u8 58)),(7,.const (.int .u8 121))] rfl #[(0,.int .u8 38),(1,.int .u8 35),(2,.int .u8 49),(3,.int .u8 50),(4,.int .u8 48),(5,.int .u8 59),(6,.int .u8 58),(7,.int .u8 121)] (by simp only[dj,cO,eC];rfl) Q0 rfl (by decide) Ql rfl (.tmp 14) rfl (fun _=>rfl) ?_;intro vb w3 sb hb;have SB3:=h_ sb;have B3:=h_ (B2.out.trans (hb.mono B2.out.size));have U3:=h_ (U2.out.keep hb);have O3:=h_ (own_below' O2.out hb);clear sb hb)
    |(go_at_call 19;refine(HR.out 1 Q0 _ a4O (by decide) pv vb _ B3.out (Sl.bL (cI O3.out)) SB3.out).mono ?_;rintro e w4 ⟨v3,rfl,ir,hb⟩;have B4:=h_ (B3.out.trans (hb.mono B3.out.size));have U4:=h_ (U3.out.keep hb);have O4:=h_ (own_below' O3.out hb);have Jy:=h_ ir;clear ir hb)
    |((with_reducible refine dZ ?_);refine aE rfl 35 rfl _ _ (ji _) ?_;refine re rfl (.tmp 3) (.tmp 16) rfl v3 (Rd.delay ⟨[⟨true,srX,[]⟩],[]⟩) (dU.one' Jy.out) rfl rfl rfl ?_;intro w5 h2 hb;have Um:=h_ h2;have B5:=h_ (B4.out.trans (hb.mono B4.out.size));have U5:=h_ (U4.out.keep hb);have O5:=h_ (own_below' O4.out hb);have RN:=h_ (Jy.out.below hb);clear h2 hb)
    |fail)
  clear U2 U3 U4 B2 B3 B4 O2 O3 O4 SB3 Jy 
  obtain⟨g3,hg3⟩:=ap (w4.heap.size)
  rw[<-hg3]at Um ⊢
  clear hg3
  go_upto_region 6 with(first
    |((with_reducible refine dZ ?_);refine dB (by rfl) (.tmp 1) rfl _ pv oC rfl rfl U5.out ?_)
    |((with_reducible refine dZ ?_);refine Qk rfl 19 #[(0,.const (.int .u8 99)),(1,.const (.int .u8 32)),(2,.const (.int .u8 49)),(3,.const (.int .u8 120)),(4,.const (.int .u8 44)),(5,.const (.int .u8 32)),(6,.const (.int .u8 104)),(7,.const (.int .u8 116)),(8,.const (.int .u8 116)),(9,.const (.int .u8 112)),(10,.const (.int .u8 58)),(11,.const (.int .u8 47)),(12,.const (.int .u8 47)),(13,.const (.int .u8 97)),(14,.const (.int .u8 58)),(15,.const (.int .u8 98)),(16,.const (.int .u8 44)),(17,.const (.int .u8 32)),(18,.const (.int .u8 100))] rfl #[(0,.int .u8 99),(1,.int .u8 32),(2,.int .u8 49),(3,.int .u8 120),(4,.int .u8 44),(5,.int .u8 32),(6,.int .u8 104),(7,.int .u8 116),(8,.int .u8 116),(9,.int .u8 112),(10,.int .u8 58),(11,.int .u8 47),(12,.int .u8 47),(13,.int .u8 97),(14,.int .u8 58),(15,.int .u8 98),(16,.int .u8 44),(17,.int .u8 32),(18,.int .u8 100)] (by simp only[dj,cO,eC];rfl) Q5 rfl (by decide) Qm rfl (.tmp 18) rfl (fun _=>rfl) ?_;intro vb w6 sb hb;have SB6:=h_ sb;have B6:=h_ (B5.out.trans (hb.mono B5.out.size));have U6:=h_ (U5.out.keep hb);have O6:=h_ (own_below' O5.out hb);have X2:=h_ (Um.out.keep hb);have RO:=h_ (RN.out.below hb);clear sb hb)
    |(go_at_call 19;refine(HR.out 2 Q5 _ a4P (by decide) pv vb _ B6.out (Sl.bL (cI O6.out)) SB6.out).mono ?_;rintro e w7 ⟨v4,rfl,ir,hb⟩;have B7:=h_ (B6.out.trans (hb.mono B6.out.size));have U7:=h_ (U6.out.keep hb);have O7:=h_ (own_below' O6.out hb);have JE:=h_ ir;have X5:=h_ (X2.out.keep hb);have RP:=h_ (RO.out.below hb);clear ir hb)
    |((with_reducible refine dZ ?_);refine aE rfl 35 rfl _ _ (ji _) ?_;refine re rfl (.tmp 4) (.tmp 20) rfl v4 (Rd.delay ⟨[⟨true,srC,[[49,120]]⟩,⟨false,U0,[]⟩,⟨true,srD,[]⟩],[]⟩) (dU.one' JE.out) rfl rfl rfl ?_;intro w8 h2 hb;have Un:=h_ h2;have B8:=h_ (B7.out.trans (hb.mono B7.out.size));have U8:=h_ (U7.out.keep hb);have O8:=h_ (own_below' O7.out hb);have RT:=h_ (JE.out.below hb);have X6:=h_ (X5.out.keep hb);have RQ:=h_ (RP.out.below hb);clear h2 hb)
    |fail)
  clear U5 U6 U7 B5 B6 B7 O5 O6 O7 SB6 JE Um RN X2 RO X5 RP
  obtain⟨g4,hg4⟩:=ap (w7.heap.size)
  rw[<-hg4]at Un ⊢
  clear hg4
  go_upto_region 7 with(first
    |((with_reducible refine dZ ?_);refine dB (by rfl) (.tmp 1) rfl _ pv oC rfl rfl U8.out ?_)
    |((with_reducible refine dZ ?_);refine Qk rfl 1 #[(0,.const (.int .u8 53))] rfl #[(0,.int .u8 53)] (by simp only[dj,cO,eC];rfl) Q7 rfl (by decide) Qn rfl (.tmp 22) rfl (fun _=>rfl) ?_;intro vb w9 sb hb;have SB9:=h_ sb;have B9:=h_ (B8.out.trans (hb.mono B8.out.size));have U9:=h_ (U8.out.keep hb);have O9:=h_ (own_below' O8.out hb);have X7:=h_ (X6.out.keep hb);have RS:=h_ (RQ.out.below hb);have X8:=h_ (Un.out.keep hb);have RU:=h_ (RT.out.below hb);clear sb hb)
    |(go_at_call 19;refine(HR.out 3 Q7 _ a4Q (by decide) pv vb _ B9.out (Sl.bL (cI O9.out)) SB9.out).mono ?_;rintro e wV ⟨v5,rfl,ir,hb⟩;have B10:=h_ (B9.out.trans (hb.mono B9.out.size));have U10:=h_ (U9.out.keep hb);have lZ:=h_ (own_below' O9.out hb);have Bj:=h_ ir;have RY:=h_ (X7.out.keep hb);have Jt:=h_ (RS.out.below hb);have Sd:=h_ (X8.out.keep hb);have Jz:=h_ (RU.out.below hb);clear ir hb)
    |((with_reducible refine dZ ?_);refine aE rfl 35 rfl _ _ (ji _) ?_;refine re rfl (.tmp 5) (.tmp 24) rfl v5 (Rd.delay ⟨[⟨true,oC,[]⟩],[53]⟩) (dU.one' Bj.out) rfl rfl rfl ?_;intro Ow h2 hb;have JN:=h_ h2;have B11:=h_ (B10.out.trans (hb.mono B10.out.size));have U11:=h_ (U10.out.keep hb);have Ol:=h_ (own_below' lZ.out hb);have JF:=h_ (Bj.out.below hb);have RZ:=h_ (RY.out.keep hb);have Ju:=h_ (Jt.out.below hb);have Se:=h_ (Sd.out.keep hb);have JA:=h_ (Jz.out.below hb);clear h2 hb)
    |fail)
  clear U8 U9 U10 B8 B9 B10 O8 O9 lZ SB9 Bj X6 RQ X7 RS RY Jt Un RT X8 RU Sd Jz
  obtain⟨g5,hg5⟩:=ap (wV.heap.size)
  rw[<-hg5]at JN ⊢
  clear hg5
  go_upto_region 8 with(first
    |((with_reducible refine dZ ?_);refine dB (by rfl) (.tmp 1) rfl _ pv oC rfl rfl U11.out ?_)
    |((with_reducible refine dZ ?_);refine Qk rfl 1 #[(0,.const (.int .u8 120))] rfl #[(0,.int .u8 120)] (by simp only[dj,cO,eC];rfl) Q8 rfl (by decide) Qo rfl (.tmp 26) rfl (fun _=>rfl) ?_;intro vb w12 sb hb;have Yf:=h_ sb;have B12:=h_ (B11.out.trans (hb.mono B11.out.size));have U12:=h_ (U11.out.keep hb);have O12:=h_ (own_below' Ol.out hb);have R9:=h_ (RZ.out.keep hb);have Jv:=h_ (Ju.out.below hb);have Sf:=h_ (Se.out.keep hb);have JB:=h_ (JA.out.below hb);have Si:=h_ (JN.out.keep hb);have JG:=h_ (JF.out.below hb);clear sb hb)
    |(go_at_call 19;refine(HR.out 3 Q8 _ a4R (by decide) pv vb _ B12.out (Sl.bL (cI O12.out)) Yf.out).mono ?_;rintro e w13 ⟨v6,rfl,ir,hb⟩;have B13:=h_ (B12.out.trans (hb.mono B12.out.size));have U13:=h_ (U12.out.keep hb);have O13:=h_ (own_below' O12.out hb);have Bk:=h_ ir;have Sb:=h_ (R9.out.keep hb);have Jw:=h_ (Jv.out.below hb);have Sg:=h_ (Sf.out.keep hb);have JC:=h_ (JB.out.below hb);have Sj:=h_ (Si.out.keep hb);have JH:=h_ (JG.out.below hb);clear ir hb)
    |((with_reducible refine dZ ?_);refine aE rfl 35 rfl _ _ (ji _) ?_;refine re rfl (.tmp 6) (.tmp 28) rfl v6 (Rd.delay ⟨[],[]⟩) (dU.one' Bk.out) rfl rfl rfl ?_;intro r6 h2 hb;have Ed:=h_ h2;have B14:=h_ (B13.out.trans (hb.mono B13.out.size));have U14:=h_ (U13.out.keep hb);have O14:=h_ (own_below' O13.out hb);have JJ:=h_ (Bk.out.below hb);have Sc:=h_ (Sb.out.keep hb);have Jx:=h_ (Jw.out.below hb);have Sh:=h_ (Sg.out.keep hb);have JD:=h_ (JC.out.below hb);have JO:=h_ (Sj.out.keep hb);have JI:=h_ (JH.out.below hb);clear h2 hb)
    |fail)
  clear U11 U12 U13 B11 B12 B13 Ol O12 O13 Yf Bk RZ Ju R9 Jv Sb Jw Se JA Sf JB Sg JC JN JF Si JG Sj JH
  obtain⟨g6,Vq⟩:=ap (w13.heap.size)
  rw[<-Vq]at Ed ⊢
  clear Vq
  obtain⟨i3,p3,e3,_,at3⟩:=Jx.out.open (by simp)
  obtain⟨i4,p4,e4,_,at4⟩:=JD.out.open (by simp)
  obtain⟨i5,p5,e5,_,at5⟩:=JI.out.open (by simp)
  obtain⟨i6,p6,e6⟩:=JJ.out.len
  replace e3:v3=.slice (some ⟨i3,0,none⟩) 1 p3:=e3
  replace e4:v4=.slice (some ⟨i4,0,none⟩) 3 p4:=e4
  replace e5:v5=.slice (some ⟨i5,0,none⟩) 1 p5:=e5
  replace e6:v6=.slice i6 0 p6:=e6
  obtain⟨pa,wa,ca,CM⟩:=at3 0 (by decide)
  obtain⟨pb,wb,cb,GT⟩:=at4 0 (by decide)
  obtain⟨pc,wc,cc,Xh⟩:=at4 1 (by decide)
  obtain⟨pd,wd,cd,ipd⟩:=at4 2 (by decide)
  obtain⟨pe,we,ce,ipe⟩:=at5 0 (by decide)
  have hcl:∀ {W:World} {g j:Nat} {x:Value},Below r6.heap.size r6 W->r6.cell? ⟨g,j,none⟩=some x->W.cell? ⟨g,j,none⟩=some x:=fun hb hc=>(hb.cell (p:=⟨_,_,none⟩) (World.block_lt_of_cell? _ _ hc)).trans hc
  have iU:=h_ (fun(W:World) (hb:Below r6.heap.size r6 W)=>(show W.cell? ⟨g3,0,none⟩=some (.slice (some ⟨i3,0,none⟩) 1 p3)∧W.cell? ⟨i3,0,none⟩=some (.bool true)∧W.cell? ⟨i3,1,none⟩=some (.string ⟨#[120]⟩) ∧
      W.cell? ⟨g4,0,none⟩=some (.slice (some ⟨i4,0,none⟩) 3 p4)∧W.cell? ⟨i4,0,none⟩=some (.bool true)∧W.cell? ⟨i4,24,none⟩=some wb∧W.cell? ⟨i4,25,none⟩=some (.bool false)∧W.cell? ⟨i4,50,none⟩=some (.bool true) ∧
      W.cell? ⟨g5,0,none⟩=some (.slice (some ⟨i5,0,none⟩) 1 p5)∧W.cell? ⟨g5,1,none⟩=some (.string ⟨#[53]⟩)∧W.cell? ⟨i5,0,none⟩=some (.bool true) ∧
      W.cell? ⟨g6,0,none⟩=some (.slice i6 0 p6)∧W.cell? ⟨g6,1,none⟩=some (.string ⟨#[]⟩)from
    ⟨hcl hb (by rw[<-e3];exact Sc.out.ak rfl),hcl hb (ca 0 _ gp),hcl hb (ca 1 _ VT),
     hcl hb (by rw[<-e4];exact Sh.out.ak rfl),hcl hb (cb 0 _ gp),hcl hb (cb 24 _ (xS GT.six)),hcl hb (cc 0 _ gp),hcl hb (cd 0 _ gp),
     hcl hb (by rw[<-e5];exact JO.out.ak rfl),hcl hb (JO.out.ak rfl),hcl hb (ce 0 _ gp),
     hcl hb (by rw[<-e6];exact Ed.out.ak rfl),hcl hb (Ed.out.ak rfl)⟩))
  have HUE:=h_ (fun(W:World) (hb:Below r6.heap.size r6 W)=>(show W.rangeAt i5 1 (bH pe oC)from fun j x hj=>hcl hb (by have:=ce (1+j) _ (ot hj);simpa using this)))
  have HPE:=h_ (fun(W:World) (hb:Below r6.heap.size r6 W)=>(show Sl W.heap.size W pe (oC.path.map S)from((Sl.bL (cI ipe.path)).below hb).more hb.size))
  have HWB:=h_ (fun(W:World) (hb:Below r6.heap.size r6 W)=>(show Sl W.heap.size W wb ([[49,120]].map S)from((Sl.bL (cI GT.words)).below hb).more hb.size))
  have HPV:=h_ (fun(W:World) (hb:Below r6.heap.size r6 W)=>(show Sl W.heap.size W pv (oC.path.map S)from((Sl.bL (cI O14.out)).below hb).more hb.size))
  clear at3 at4 at5 ca cb cc cd ce CM GT Xh ipd ipe hcl e3 e4 e5 e6 Jx JD JI JJ Sc Sh JO Ed O14 HR
  obtain⟨f1,f2,f3,f4,f5,f6,f7,f8,f9,f10,f11,f12,f13⟩:=iU.out r6 (Below.refl _ _)
  clear f2 f3 f5 f6 f7 f8 f10 f11 f12 f13
  go_upto_region 10 with fail
  clear f1 f4 f9
  have u7:=h_ (show(prog.info? 30).map (·.size)=some (ah pv oC).size by rw[eL (u:=oC) rfl];exact dq)
  simp only[WX,bI,bW]
  refine wp_region_held_drew (S:=fun W=>Below r6.heap.size r6 W) (by kernel_rfl) (by first|exact aJ (aG _)|exact Rl.out|exact r7.out|exact IY.out|exact Oy.out|exact IW.out|exact Rk.out) (fun hHeld=>?_)
  refine rn 0 (by kernel_rfl) rfl (by rfl) (fun K hK=>?_)
  refine sr 50 17 _ rfl _ _ #[(0,.int .u8 97),(1,.int .u8 0),(2,.int .u8 255),(3,.int .u8 38),(4,.int .u8 97),(5,.int .u8 109),(6,.int .u8 112),(7,.int .u8 59),(8,.int .u8 38),(9,.int .u8 35),(10,.int .u8 51),(11,.int .u8 56),(12,.int .u8 59),(13,.int .u8 97),(14,.int .u8 109),(15,.int .u8 112),(16,.int .u8 59)] (by simp only[dj,cO,eC];rfl) (Qp _) ?_
  obtain⟨wd,hwd⟩:=ap (r6.drew)
  rw[<-hwd]at hHeld ⊢
  have Rk:=h_ (show Below r6.heap.size r6 (wd.alloc (.cells (Lib.byteCells ny).toArray 5))from hHeld.alloc hHeld.size _)
  obtain⟨w15,VI⟩:=ap (wd.alloc (.cells (Lib.byteCells ny).toArray 5))
  rw[<-VI]at Rk ⊢
  have a2S:=h_ VI
  have WJ:=h_ hHeld
  clear VI hwd
  refine hK.out _ _ ?_ (fun hHeld=>?_)
  · first|exact aJ (aG _)|exact Rl.out|exact r7.out|exact IY.out|exact Oy.out|exact IW.out|exact Rk.out
  clear hK K
  try simp only[Act.put,aK,aL,aM]
  refine rn 1 (by kernel_rfl) rfl (by rfl) (fun K hK=>?_)
  refine mf 50 50 (.tmp 45) rfl (.slice (some ⟨wd.heap.size,0,none⟩) 17 17) rfl (by rw[a2S.out];exact E8 _ 17 wd) ?_
  have sb:=MC ny wd (by decide) ((Lib.byteCells ny).toArray.size,(Lib.byteCells ny).toArray.size+1)
  have IW:=h_ (show Below r6.heap.size r6 (wd.alloc (.cells (Lib.byteCells ny).toArray 5 ((Lib.byteCells ny).toArray.size,(Lib.byteCells ny).toArray.size+1)))from WJ.out.alloc WJ.out.size _)
  obtain⟨w16,hw16⟩:=ap (wd.alloc (.cells (Lib.byteCells ny).toArray 5 ((Lib.byteCells ny).toArray.size,(Lib.byteCells ny).toArray.size+1)))
  rw[<-hw16]at IW sb ⊢
  have a28:=h_ (show Sl w16.heap.size w16 (.slice (some ⟨wd.heap.size,0,none⟩) 17 17) (Lib.byteCells ny)from sb)
  clear hw16 sb
  refine hK.out _ _ ?_ (fun hHeld=>?_)
  · first|exact aJ (aG _)|exact Rl.out|exact r7.out|exact IY.out|exact Oy.out|exact IW.out|exact Rk.out
  clear hK K
  try simp only[Act.put,aK,aL,aM]
  refine rn 2 (by kernel_rfl) rfl (by rfl) (fun K hK=>?_)
  go_simp
  refine(Ea.out _ _ (B14.out.trans (IW.out.mono B14.out.size)) a28.out).mono ?_
  rintro e w17 ⟨rfl,hb⟩
  have Oy:=h_ (IW.out.trans (hb.mono IW.out.size))
  clear hb
  refine hK.out _ _ ?_ (fun hHeld=>?_)
  · first|exact aJ (aG _)|exact Rl.out|exact r7.out|exact IY.out|exact Oy.out|exact IW.out|exact Rk.out
  clear hK K
  try simp only[Act.put,aK,aL,aM]
  refine tq 3 rfl ?_ (fun wS hSw=>?_) ?_
  rotate_left
  · (try dsimp only at hSw);go_simp;first|done|with_reducible rfl
  try simp only[Act.put,aK,aL,aM]
  refine tq 4 rfl ?_ (fun wS hSw=>?_) ?_
  rotate_left
  · (try dsimp only at hSw);go_simp;first|done|with_reducible rfl
  try simp only[Act.put,aK,aL,aM]
  refine tq 5 rfl ?_ (fun wS hSw=>?_) ?_
  rotate_left
  · (try dsimp only at hSw);go_simp;first|done|with_reducible rfl
  try simp only[Act.put,aK,aL,aM]
  refine tq 6 rfl ?_ (fun wS hSw=>?_) ?_
  rotate_left
  · (try dsimp only at hSw)
    refine aF 33 (.tmp 50) ?_ g3 0 (.slice (some ⟨i3,0,none⟩) 1 p3) _ underlying33 rfl ?_ ?_
    · rfl
    · rfl
    exact(iU.out _ hSw).1
  try simp only[Act.put,aK,aL,aM]
  refine tq 7 rfl ?_ (fun wS hSw=>?_) ?_
  rotate_left
  · (try dsimp only at hSw);go_simp;first|done|with_reducible rfl
  try simp only[Act.put,aK,aL,aM]
  refine tq 8 rfl ?_ (fun wS hSw=>?_) ?_
  rotate_left
  · (try dsimp only at hSw);go_simp;first|done|with_reducible rfl
  try simp only[Act.put,aK,aL,aM]
  refine tq 9 rfl ?_ (fun wS hSw=>?_) ?_
  rotate_left
  · (try dsimp only at hSw)
    refine aF 4 (.tmp 53) ?_ i3 0 (.bool true) _ underlying4 rfl ?_ ?_
    · rfl
    · rfl
    exact(iU.out _ hSw).2.1
  try simp only[Act.put,aK,aL,aM]
  refine tq 10 rfl ?_ (fun wS hSw=>?_) ?_
  rotate_left
  · (try dsimp only at hSw);go_simp;first|done|with_reducible rfl
  try simp only[Act.put,aK,aL,aM]
  refine tq 11 rfl ?_ (fun wS hSw=>?_) ?_
  rotate_left
  · (try dsimp only at hSw);go_simp;first|done|with_reducible rfl
  try simp only[Act.put,aK,aL,aM]
  refine tq 12 rfl ?_ (fun wS hSw=>?_) ?_
  rotate_left
  · (try dsimp only at hSw);go_simp;first|done|with_reducible rfl
  try simp only[Act.put,aK,aL,aM]
  refine tq 13 rfl ?_ (fun wS hSw=>?_) ?_
  rotate_left
  · (try dsimp only at hSw)
    refine aF 33 (.tmp 57) ?_ g3 0 (.slice (some ⟨i3,0,none⟩) 1 p3) _ underlying33 rfl ?_ ?_
    · rfl
    · rfl
    exact(iU.out _ hSw).1
  try simp only[Act.put,aK,aL,aM]
  refine tq 14 rfl ?_ (fun wS hSw=>?_) ?_
  rotate_left
  · (try dsimp only at hSw);go_simp;first|done|with_reducible rfl
  try simp only[Act.put,aK,aL,aM]
  refine tq 15 rfl ?_ (fun wS hSw=>?_) ?_
  rotate_left
  · (try dsimp only at hSw);go_simp;first|done|with_reducible rfl
  try simp only[Act.put,aK,aL,aM]
  refine tq 16 rfl ?_ (fun wS hSw=>?_) ?_
  rotate_left
  · (try dsimp only at hSw);go_simp;first|done|with_reducible rfl
  try simp only[Act.put,aK,aL,aM]
  refine tq 17 rfl ?_ (fun wS hSw=>?_) ?_
  rotate_left
  · (try dsimp only at hSw)
    refine aF 9 (.tmp 61) ?_ i3 1 (.string ⟨#[120]⟩) _ underlying9 rfl ?_ ?_
    · rfl
    · rfl
    exact(iU.out _ hSw).2.2.1
  try simp only[Act.put,aK,aL,aM]
  refine tq 18 rfl ?_ (fun wS hSw=>?_) ?_
  rotate_left
  · (try dsimp only at hSw);go_simp;first|done|with_reducible rfl
  try simp only[Act.put,aK,aL,aM]
  refine tq 19 rfl ?_ (fun wS hSw=>?_) ?_
  rotate_left
  · (try dsimp only at hSw);go_simp;first|done|with_reducible rfl
  try simp only[Act.put,aK,aL,aM]
  refine tq 20 rfl ?_ (fun wS hSw=>?_) ?_
  rotate_left
  · (try dsimp only at hSw);go_simp;first|done|with_reducible rfl
  try simp only[Act.put,aK,aL,aM]
  refine tq 21 rfl ?_ (fun wS hSw=>?_) ?_
  rotate_left
  · (try dsimp only at hSw);go_simp;first|done|with_reducible rfl
  try simp only[Act.put,aK,aL,aM]
  refine tq 22 rfl ?_ (fun wS hSw=>?_) ?_
  rotate_left
  · (try dsimp only at hSw)
    refine aF 33 (.tmp 66) ?_ g4 0 (.slice (some ⟨i4,0,none⟩) 3 p4) _ underlying33 rfl ?_ ?_
    · rfl
    · rfl
    exact(iU.out _ hSw).2.2.2.1
  try simp only[Act.put,aK,aL,aM]
  refine tq 23 rfl ?_ (fun wS hSw=>?_) ?_
  rotate_left
  · (try dsimp only at hSw);go_simp;first|done|with_reducible rfl
  try simp only[Act.put,aK,aL,aM]
  refine tq 24 rfl ?_ (fun wS hSw=>?_) ?_
  rotate_left
  · (try dsimp only at hSw);go_simp;first|done|with_reducible rfl
  try simp only[Act.put,aK,aL,aM]
  refine tq 25 rfl ?_ (fun wS hSw=>?_) ?_
  rotate_left
  · (try dsimp only at hSw)
    refine aF 4 (.tmp 69) ?_ i4 0 (.bool true) _ underlying4 rfl ?_ ?_
    · rfl
    · rfl
    exact(iU.out _ hSw).2.2.2.2.1
  try simp only[Act.put,aK,aL,aM]
  refine tq 26 rfl ?_ (fun wS hSw=>?_) ?_
  rotate_left
  · (try dsimp only at hSw);go_simp;first|done|with_reducible rfl
  try simp only[Act.put,aK,aL,aM]
  refine tq 27 rfl ?_ (fun wS hSw=>?_) ?_
  rotate_left
  · (try dsimp only at hSw);go_simp;first|done|with_reducible rfl
  try simp only[Act.put,aK,aL,aM]
  refine tq 28 rfl ?_ (fun wS hSw=>?_) ?_
  rotate_left
  · (try dsimp only at hSw);go_simp;first|done|with_reducible rfl
  try simp only[Act.put,aK,aL,aM]
  refine tq 29 rfl ?_ (fun wS hSw=>?_) ?_
  rotate_left
  · (try dsimp only at hSw)
    refine aF 33 (.tmp 73) ?_ g4 0 (.slice (some ⟨i4,0,none⟩) 3 p4) _ underlying33 rfl ?_ ?_
    · rfl
    · rfl
    exact(iU.out _ hSw).2.2.2.1
  try simp only[Act.put,aK,aL,aM]
  refine tq 30 rfl ?_ (fun wS hSw=>?_) ?_
  rotate_left
  · (try dsimp only at hSw);go_simp;first|done|with_reducible rfl
  try simp only[Act.put,aK,aL,aM]
  refine tq 31 rfl ?_ (fun wS hSw=>?_) ?_
  rotate_left
  · (try dsimp only at hSw);go_simp;first|done|with_reducible rfl
  try simp only[Act.put,aK,aL,aM]
  refine tq 32 rfl ?_ (fun wS hSw=>?_) ?_
  rotate_left
  · (try dsimp only at hSw)
    refine aF 28 (.tmp 76) ?_ i4 24 (wb) _ underlying28 rfl ?_ ?_
    · rfl
    · rfl
    exact(iU.out _ hSw).2.2.2.2.2.1
  try simp only[Act.put,aK,aL,aM]
  refine rn 33 (by kernel_rfl) rfl (by rfl) (fun K hK=>?_)
  refine sr 28 1 _ rfl _ _ #[(0,S [49,120])] (by simp only[dj,cO,eC];rfl) (Yr _) ?_
  have sb:=QX w17 [49,120]
  have IY:=h_ (show Below r6.heap.size r6 (w17.alloc (.cells #[S [49,120]] 9))from Oy.out.alloc Oy.out.size _)
  obtain⟨w18,ZW⟩:=ap (w17.alloc (.cells #[S [49,120]] 9))
  rw[<-ZW]at IY sb ⊢
  have a29:=h_ sb
  clear ZW sb
  refine hK.out _ _ ?_ (fun hHeld=>?_)
  · first|exact aJ (aG _)|exact Rl.out|exact r7.out|exact IY.out|exact Oy.out|exact IW.out|exact Rk.out
  clear hK K
  try simp only[Act.put,aK,aL,aM]
  refine rn 34 (by kernel_rfl) rfl (by rfl) (fun K hK=>?_)
  go_simp
  refine(ln [[49,120]] [[49,120]] wb _ _ _ _ (HWB.out _ IY.out) a29.out).mono ?_
  rintro e a9t ⟨rfl,hb⟩
  have r7:=h_ (IY.out.trans (hb.mono IY.out.size))
  clear hb
  refine hK.out _ _ ?_ (fun hHeld=>?_)
  · first|exact aJ (aG _)|exact Rl.out|exact r7.out|exact IY.out|exact Oy.out|exact IW.out|exact Rk.out
  clear hK K
  try dsimp only
  refine tq 35 rfl ?_ (fun wS hSw=>?_) ?_
  rotate_left
  · (try dsimp only at hSw);go_simp;first|done|with_reducible rfl
  try simp only[Act.put,aK,aL,aM]
  refine tq 36 rfl ?_ (fun wS hSw=>?_) ?_
  rotate_left
  · (try dsimp only at hSw);go_simp;first|done|with_reducible rfl
  try simp only[Act.put,aK,aL,aM]
  refine tq 37 rfl ?_ (fun wS hSw=>?_) ?_
  rotate_left
  · (try dsimp only at hSw);go_simp;first|done|with_reducible rfl
  try simp only[Act.put,aK,aL,aM]
  refine tq 38 rfl ?_ (fun wS hSw=>?_) ?_
  rotate_left
  · (try dsimp only at hSw)
    refine aF 33 (.tmp 82) ?_ g4 0 (.slice (some ⟨i4,0,none⟩) 3 p4) _ underlying33 rfl ?_ ?_
    · rfl
    · rfl
    exact(iU.out _ hSw).2.2.2.1
  try simp only[Act.put,aK,aL,aM]
  refine tq 39 rfl ?_ (fun wS hSw=>?_) ?_
  rotate_left
  · (try dsimp only at hSw);go_simp;first|done|with_reducible rfl
  try simp only[Act.put,aK,aL,aM]
  refine tq 40 rfl ?_ (fun wS hSw=>?_) ?_
  rotate_left
  · (try dsimp only at hSw);go_simp;first|done|with_reducible rfl
  try simp only[Act.put,aK,aL,aM]
  refine tq 41 rfl ?_ (fun wS hSw=>?_) ?_
  rotate_left
  · (try dsimp only at hSw)
    refine aF 4 (.tmp 85) ?_ i4 25 (.bool false) _ underlying4 rfl ?_ ?_
    · rfl
    · rfl
    exact(iU.out _ hSw).2.2.2.2.2.2.1
  try simp only[Act.put,aK,aL,aM]
  refine tq 42 rfl ?_ (fun wS hSw=>?_) ?_
  rotate_left
  · (try dsimp only at hSw);go_simp;first|done|with_reducible rfl
  try simp only[Act.put,aK,aL,aM]
  refine tq 43 rfl ?_ (fun wS hSw=>?_) ?_
  rotate_left
  · (try dsimp only at hSw);go_simp;first|done|with_reducible rfl
  try simp only[Act.put,aK,aL,aM]
  refine tq 44 rfl ?_ (fun wS hSw=>?_) ?_
  rotate_left
  · (try dsimp only at hSw);go_simp;first|done|with_reducible rfl
  try simp only[Act.put,aK,aL,aM]
  refine tq 45 rfl ?_ (fun wS hSw=>?_) ?_
  rotate_left
  · (try dsimp only at hSw);go_simp;first|done|with_reducible rfl
  try simp only[Act.put,aK,aL,aM]
  refine tq 46 rfl ?_ (fun wS hSw=>?_) ?_
  rotate_left
  · (try dsimp only at hSw)
    refine aF 33 (.tmp 90) ?_ g4 0 (.slice (some ⟨i4,0,none⟩) 3 p4) _ underlying33 rfl ?_ ?_
    · rfl
    · rfl
    exact(iU.out _ hSw).2.2.2.1
  try simp only[Act.put,aK,aL,aM]
  refine tq 47 rfl ?_ (fun wS hSw=>?_) ?_
  rotate_left
  · (try dsimp only at hSw);go_simp;first|done|with_reducible rfl
  try simp only[Act.put,aK,aL,aM]
  refine tq 48 rfl ?_ (fun wS hSw=>?_) ?_
  rotate_left
  · (try dsimp only at hSw);go_simp;first|done|with_reducible rfl
  try simp only[Act.put,aK,aL,aM]
  refine tq 49 rfl ?_ (fun wS hSw=>?_) ?_
  rotate_left
  · (try dsimp only at hSw)
    refine aF 4 (.tmp 93) ?_ i4 50 (.bool true) _ underlying4 rfl ?_ ?_
    · rfl
    · rfl
    exact(iU.out _ hSw).2.2.2.2.2.2.2.1
  try simp only[Act.put,aK,aL,aM]
  refine tq 50 rfl ?_ (fun wS hSw=>?_) ?_
  rotate_left
  · (try dsimp only at hSw);go_simp;first|done|with_reducible rfl
  try simp only[Act.put,aK,aL,aM]
  refine tq 51 rfl ?_ (fun wS hSw=>?_) ?_
  rotate_left
  · (try dsimp only at hSw);go_simp;first|done|with_reducible rfl
  try simp only[Act.put,aK,aL,aM]
  refine tq 52 rfl ?_ (fun wS hSw=>?_) ?_
  rotate_left
  · (try dsimp only at hSw);go_simp;first|done|with_reducible rfl
  try simp only[Act.put,aK,aL,aM]
  refine tq 53 rfl ?_ (fun wS hSw=>?_) ?_
  rotate_left
  · (try dsimp only at hSw)
    refine aF 9 (.tmp 97) ?_ g5 1 (.string ⟨#[53]⟩) _ underlying9 rfl ?_ ?_
    · rfl
    · rfl
    exact(iU.out _ hSw).2.2.2.2.2.2.2.2.2.1
  try simp only[Act.put,aK,aL,aM]
  refine tq 54 rfl ?_ (fun wS hSw=>?_) ?_
  rotate_left
  · (try dsimp only at hSw);go_simp;first|done|with_reducible rfl
  try simp only[Act.put,aK,aL,aM]
  refine tq 55 rfl ?_ (fun wS hSw=>?_) ?_
  rotate_left
  · (try dsimp only at hSw);go_simp;first|done|with_reducible rfl
  try simp only[Act.put,aK,aL,aM]
  refine tq 56 rfl ?_ (fun wS hSw=>?_) ?_
  rotate_left
  · (try dsimp only at hSw);go_simp;first|done|with_reducible rfl
  try simp only[Act.put,aK,aL,aM]
  refine tq 57 rfl ?_ (fun wS hSw=>?_) ?_
  rotate_left
  · (try dsimp only at hSw);go_simp;first|done|with_reducible rfl
  try simp only[Act.put,aK,aL,aM]
  refine tq 58 rfl ?_ (fun wS hSw=>?_) ?_
  rotate_left
  · (try dsimp only at hSw)
    refine aF 33 (.tmp 102) ?_ g5 0 (.slice (some ⟨i5,0,none⟩) 1 p5) _ underlying33 rfl ?_ ?_
    · rfl
    · rfl
    exact(iU.out _ hSw).2.2.2.2.2.2.2.2.1
  try simp only[Act.put,aK,aL,aM]
  refine tq 59 rfl ?_ (fun wS hSw=>?_) ?_
  rotate_left
  · (try dsimp only at hSw);go_simp;first|done|with_reducible rfl
  try simp only[Act.put,aK,aL,aM]
  refine tq 60 rfl ?_ (fun wS hSw=>?_) ?_
  rotate_left
  · (try dsimp only at hSw);go_simp;first|done|with_reducible rfl
  try simp only[Act.put,aK,aL,aM]
  refine tq 61 rfl ?_ (fun wS hSw=>?_) ?_
  rotate_left
  · (try dsimp only at hSw)
    refine aF 4 (.tmp 105) ?_ i5 0 (.bool true) _ underlying4 rfl ?_ ?_
    · rfl
    · rfl
    exact(iU.out _ hSw).2.2.2.2.2.2.2.2.2.2.1
  try simp only[Act.put,aK,aL,aM]
  refine tq 62 rfl ?_ (fun wS hSw=>?_) ?_
  rotate_left
  · (try dsimp only at hSw);go_simp;first|done|with_reducible rfl
  try simp only[Act.put,aK,aL,aM]
  refine tq 63 rfl ?_ (fun wS hSw=>?_) ?_
  rotate_left
  · (try dsimp only at hSw);go_simp;first|done|with_reducible rfl
  try simp only[Act.put,aK,aL,aM]
  refine tq 64 rfl ?_ (fun wS hSw=>?_) ?_
  rotate_left
  · (try dsimp only at hSw);go_simp;first|done|with_reducible rfl
  try simp only[Act.put,aK,aL,aM]
  refine tq 65 rfl ?_ (fun wS hSw=>?_) ?_
  rotate_left
  · (try dsimp only at hSw)
    refine aF 33 (.tmp 109) ?_ g5 0 (.slice (some ⟨i5,0,none⟩) 1 p5) _ underlying33 rfl ?_ ?_
    · rfl
    · rfl
    exact(iU.out _ hSw).2.2.2.2.2.2.2.2.1
  try simp only[Act.put,aK,aL,aM]
  refine tq 66 rfl ?_ (fun wS hSw=>?_) ?_
  rotate_left
  · (try dsimp only at hSw);go_simp;first|done|with_reducible rfl
  try simp only[Act.put,aK,aL,aM]
  refine tq 67 rfl ?_ (fun wS hSw=>?_) ?_
  rotate_left
  · (try dsimp only at hSw);go_simp;first|done|with_reducible rfl
  try simp only[Act.put,aK,aL,aM]
  refine tq 68 rfl ?_ (fun wS hSw=>?_) ?_
  rotate_left
  · (try dsimp only at hSw)
    refine dM 30 (.tmp 112) ?_ i5 1 (bH pe oC) _ underlying30 rfl (by rw[dq,gg (u:=oC) rfl]) ?_ ?_
    · rfl
    · rfl
    exact HUE.out _ hSw
  try simp only[Act.put,aK,aL,aM]
  refine tq 69 rfl ?_ (fun wS hSw=>?_) ?_
  rotate_left
  · (try dsimp only at hSw)
    refine cq 30 (.tmp 1) ?_ g1 (ah pv oC) _ underlying30 rfl u7.out ?_ ?_
    · rfl
    · rfl
    exact U14.out.keep hSw
  try simp only[Act.put,aK,aL,aM]
  refine rn 70 (by kernel_rfl) rfl (by rfl) (fun K hK=>?_)
  go_simp
  refine(jw oC pe pv _ rfl (by decide) (HPE.out _ r7.out) (HPV.out _ r7.out)).mono ?_
  rintro e w19 ⟨rfl,hb⟩
  have Rl:=h_ (r7.out.trans (hb.mono r7.out.size))
  clear hb
  refine hK.out _ _ ?_ (fun hHeld=>?_)
  · first|exact aJ (aG _)|exact Rl.out|exact r7.out|exact IY.out|exact Oy.out|exact IW.out|exact Rk.out
  clear hK K
  try simp only[Act.put,aK,aL,aM]
  refine tq 71 rfl ?_ (fun wS hSw=>?_) ?_
  rotate_left
  · (try dsimp only at hSw);go_simp;first|done|with_reducible rfl
  try simp only[Act.put,aK,aL,aM]
  refine tq 72 rfl ?_ (fun wS hSw=>?_) ?_
  rotate_left
  · (try dsimp only at hSw);go_simp;first|done|with_reducible rfl
  try simp only[Act.put,aK,aL,aM]
  refine tq 73 rfl ?_ (fun wS hSw=>?_) ?_
  rotate_left
  · (try dsimp only at hSw);go_simp;first|done|with_reducible rfl
  try simp only[Act.put,aK,aL,aM]
  refine tq 74 rfl ?_ (fun wS hSw=>?_) ?_
  rotate_left
  · (try dsimp only at hSw)
    refine aF 33 (.tmp 118) ?_ g6 0 (.slice i6 0 p6) _ underlying33 rfl ?_ ?_
    · rfl
    · rfl
    exact(iU.out _ hSw).2.2.2.2.2.2.2.2.2.2.2.1
  try simp only[Act.put,aK,aL,aM]
  refine tq 75 rfl ?_ (fun wS hSw=>?_) ?_
  rotate_left
  · (try dsimp only at hSw);go_simp;first|done|with_reducible rfl
  try simp only[Act.put,aK,aL,aM]
  refine tq 76 rfl ?_ (fun wS hSw=>?_) ?_
  rotate_left
  · (try dsimp only at hSw);go_simp;first|done|with_reducible rfl
  try simp only[Act.put,aK,aL,aM]
  refine tq 77 rfl ?_ (fun wS hSw=>?_) ?_
  rotate_left
  · (try dsimp only at hSw);go_simp;first|done|with_reducible rfl
  try simp only[Act.put,aK,aL,aM]
  refine tq 78 rfl ?_ (fun wS hSw=>?_) ?_
  rotate_left
  · (try dsimp only at hSw);go_simp;first|done|with_reducible rfl
  try simp only[Act.put,aK,aL,aM]
  refine tq 79 rfl ?_ (fun wS hSw=>?_) ?_
  rotate_left
  · (try dsimp only at hSw);go_simp;first|done|with_reducible rfl
  try simp only[Act.put,aK,aL,aM]
  refine tq 80 rfl ?_ (fun wS hSw=>?_) ?_
  rotate_left
  · (try dsimp only at hSw)
    refine aF 9 (.tmp 124) ?_ g6 1 (.string ⟨#[]⟩) _ underlying9 rfl ?_ ?_
    · rfl
    · rfl
    exact(iU.out _ hSw).2.2.2.2.2.2.2.2.2.2.2.2
  try simp only[Act.put,aK,aL,aM]
  refine tq 81 rfl ?_ (fun wS hSw=>?_) ?_
  rotate_left
  · (try dsimp only at hSw);go_simp;first|done|with_reducible rfl
  try simp only[Act.put,aK,aL,aM]
  refine tq 82 rfl ?_ (fun wS hSw=>?_) ?_
  rotate_left
  · (try dsimp only at hSw);go_simp;first|done|with_reducible rfl
  try simp only[Act.put,aK,aL,aM]
  refine tq 83 rfl ?_ (fun wS hSw=>?_) ?_
  rotate_left
  · (try dsimp only at hSw);go_simp;first|done|with_reducible rfl
  try simp only[Act.put,WY,List.set_cons_zero]
  refine wpAnyH_done (by kernel_rfl) ?_ _
  go_wp2_with fail
  go_ret
  exact⟨rfl,B14.out.trans (Rl.out.mono B14.out.size)⟩

theorem NT {b u:Url} {t s:Bytes} (ht:t.length<=300) (hs:s.length<=300) (hb:gv t=some b) (h:mC b s=some u):JQ u:=by
 have h0:=AJ (L:=500) (by omega) (by omega) hb
 have hl:=NS (L:=500) (by omega) (by omega) h0 h
 exact⟨EJ (Dp (tQ hb) h),Tt hl (by omega) (by omega),Ts hl (by omega)⟩
theorem CS (bu:Url) (bv:Value) (s:Bytes) (w:World) (h8:bu.host.six.length=8) (hbv:Sl w.heap.size w bv (bu.path.map S)) (hbs:Bs bu.path) (hs:s.length<=1048576) (hE:Env w):Calls prog 12 #[.agg (ah bv bu),.string (bs s)] w fun e w' =>
  ∃pj,e=.returned (.tuple #[.agg (ah pj (dG bu s []).url),.bool (dG bu s []).right])∧w'.ownsRow w.heap.size 9 1 pj (dG bu s []).url.path.length (Strs (dG bu s []).url.path)∧Below w.heap.size w w':=by
 have h:=vY bu bv s w h8 hbv hbs hs hE
 unfold dG
 cases hJ:mC bu s with
 |none =>
  rw[hJ]at h
  refine Calls.mono h ?_
  rintro e w' ⟨rfl,hb⟩
  exact⟨aD,rfl,World.ownsRow_nil _ _ _ _,hb⟩
 |some u =>
  rw[hJ]at h
  refine Calls.mono h ?_
  rintro e w' ⟨pv,rfl,ho,hb⟩
  exact⟨pv,rfl,ho,hb⟩
theorem Yg:JQ U0:=⟨⟨⟨by decide,by decide,rfl,by decide⟩,by decide⟩,⟨by decide,by decide,by decide,by decide,by decide,by decide,by decide,by decide⟩,by decide,by decide⟩
theorem CP {t s:Bytes} {b:Url} (ht:t.length<=300) (hs:s.length<=300) (hb:gv t=some b) (ws:List Bytes):JQ (dG b s ws).url:=by
 unfold dG
 cases h:mC b s with
 |none=>exact Yg
 |some u=>exact NT ht hs hb h
def qB:Bytes:=[59,117,114,108,61,39]
theorem Ni (b:Url) (u:Nat):rG 3 b (Lib.decDigits u)=⟨[⟨true,b,[]⟩],Lib.decDigits u⟩:=by
 show(match uU (Lib.decDigits u)with|none=>_|some r=>_)=_
 rw[Nq (vt u)]
 rfl
theorem Nl (b:Url) (u:Nat) {s:Bytes} (h:∀ x∈s,x≠39):rG 3 b (Lib.decDigits u++(qB++s))=⟨[dG b s []],Lib.decDigits u⟩:=by
 show(match uU (Lib.decDigits u++([59,117,114,108,61,39]++s))with|none=>_|some r=>_)=_
 rw[Nr (vt u) h]
 rfl
theorem Nj (kind:Int) (b:Url) (s:Bytes):(rG kind b s).items.length<=s.length+1:=by
 unfold rG
 split
 ·exact Nat.le_add_left _ _
 split
 ·have:=(yo s).1
  simp only[aj]
  omega
 split
 ·split
  ·exact aO _
  exact Nat.le_add_left _ _
 exact aO _

theorem Ww (w:World) (v1 v2:Value) (d:Bytes):∃ W,(w.alloc (.cells (bj v1 d) 35)).alloc (.cells (bj v2 d) 35)=W∧Below w.heap.size w W∧CB W w.heap.size 35 (bj v1 d)∧CB W (w.heap.size+1) 35 (bj v2 d):=by
 have hx:=CB.new w 35 (bj v1 d)
 have hb:=(Below.refl w.heap.size w).alloc (ae _) (.cells (bj v1 d) 35)
 obtain⟨w1,hw1⟩:=ap (w.alloc (.cells (bj v1 d) 35))
 have hz1:w1.heap.size=w.heap.size+1:=by rw[hw1];simp
 rw[<-hw1]at hx hb ⊢
 have hy:=CB.new w1 35 (bj v2 d)
 have hb2:=(Below.refl w1.heap.size w1).alloc (ae _) (.cells (bj v2 d) 35)
 rw[hz1]at hy
 exact⟨_,rfl,fJ hb hb2,hx.keep hb2,hy⟩
section
variable {ops:Array Oper} {rest:List Oper} {o:Oper} {a:Act} {w:World} {Q:Exit->Act->World->Prop}
theorem Lr (hgd:o.guard=none) (x:Operand) (ho:o.op=.load 41 x) (b k:Nat) (pv wv:Value) (it:gG) (h8:it.url.host.six.length=8) (hr:w.rangeAt b k (cV pv wv it)) (hx:a.eval x=.pointer (some ⟨b,k,none⟩)) (K:wpList prog ops Q rest (a.put o.dst (.agg (bN pv wv it))) w):wpList prog ops Q (o::rest) a w :=
 jA hgd (.agg (bN pv wv it)) (dM 41 x ho b k (cV pv wv it) _ underlying41 rfl (by rw[kz h8];exact pm) hx hr) K
end
theorem lq (r:Rd) (v1 v2:Value) (w:World) (b1 b2:Nat) (h1:dU w b1 v1 r.items) (h2:dU w b2 v2 r.items) (hl:r.items.length<=1000000000) :
  Calls prog 18 #[.agg (bj v1 r.delay),.agg (bj v2 r.delay)] w fun e w'=>e=.returned (.bool true)∧Below w.heap.size w w':=by
 obtain⟨W,hW,hb,k1,k2⟩:=Ww w v1 v2 r.delay
 obtain⟨a1,c1,e1⟩:=h1.len
 obtain⟨a2,c2,e2⟩:=h2.len
 have HW:=h_ hW
 have BW:=h_ hb
 have K1:=h_ k1
 have K2:=h_ k2
 have R1:=h_ h1
 have R2:=h_ h2
 obtain⟨N,hN⟩:=ap (r.items.length)
 have HN:=h_ hN
 rw[<-hN]at e1 e2 hl
 obtain⟨db,hdb⟩:=ap (bs r.delay)
 have iU:=h_ (fun(V:World) (hb2:Below W.heap.size W V)=>(show V.cell? ⟨w.heap.size,0,none⟩=some (.slice a1 N c1)∧V.cell? ⟨w.heap.size,1,none⟩=some (.string db)∧V.cell? ⟨w.heap.size+1,0,none⟩=some (.slice a2 N c2)∧V.cell? ⟨w.heap.size+1,1,none⟩=some (.string db)from
  ⟨by rw[<-e1];exact(k1.keep hb2).ak rfl,by rw[hdb];exact(k1.keep hb2).ak rfl,by rw[<-e2];exact(k2.keep hb2).ak rfl,by rw[hdb];exact(k2.keep hb2).ak rfl⟩))
 have E1:=h_ e1
 have E2:=h_ e2
 clear hW hb k1 k2 h1 h2 hN hdb e1 e2
 go_enter func18,ntmps18
 go_upto_region 1 with fail
 rw[HW.out]
 obtain⟨f1,f2,f3,f4⟩:=iU.out W (Below.refl _ _)
 go_wp2_with fail
 clear f1 f2 f3 f4
 go_loopw [4,5,6,7] (fun _ iv _ _ wr=>∃ k:Nat,k<=N∧iv=.int .i64 k∧Hid (Below W.heap.size W wr)) (fun _ i _ _ _=>N-(intOf i).toNat)
 case atStart=>exact⟨0,aO _,rfl,h_ (Below.refl _ _)⟩
 case round =>
  obtain⟨k,hk,rfl,BR⟩:=hrel
  obtain⟨f1,f2,f3,f4⟩:=iU.out wr BR.out
  by_cases hkN:k<N
  ·have hkl:k<r.items.length:=by have:=HN.out;omega
   have hne:r.items ≠ []:=fun h=>by rw[h]at hkl;exact absurd hkl (bE _)
   have B0:=h_ (BW.out.trans (BR.out.mono BW.out.size))
   obtain⟨g1,p1,ea,_,yF⟩:=(R1.out.below B0.out).open hne
   obtain⟨g2,p2,eb,_,at2⟩:=(R2.out.below B0.out).open hne
   obtain⟨pa,wa,ca,CM⟩:=yF k hkl
   obtain⟨pb,wb,cb,GT⟩:=at2 k hkl
   rw[E1.out]at ea
   rw[E2.out]at eb
   injection ea with ea x1 x2
   injection eb with eb x3 x4
   clear x1 x2 x3 x4
   obtain⟨it,hit⟩:=ap (r.items[k])
   rw[<-hit]at ca cb CM GT
   have H8:=h_ CM.six
   have RA:=h_ (show wr.rangeAt g1 (k*25) (cV pa wa it)from fun j x hj=>ca j x hj)
   have hcl:∀ {V:World} {g j:Nat} {x:Value},Below wr.heap.size wr V->wr.cell? ⟨g,j,none⟩=some x->V.cell? ⟨g,j,none⟩=some x:=fun hb hc=>(hb.cell (p:=⟨_,_,none⟩) (World.block_lt_of_cell? _ _ hc)).trans hc
   have RB:=h_ (fun(V:World) (hb2:Below wr.heap.size wr V)=>(show V.rangeAt g2 (k*25) (cV pb wb it)from fun j x hj=>hcl hb2 (cb j x hj)))
   have PA:=h_ (Sl.bL (cI CM.path))
   have PB:=h_ (Sl.bL (cI GT.path))
   have WA:=h_ (Sl.bL (cI CM.words))
   have WB:=h_ (Sl.bL (cI GT.words))
   have OA:=h_ (And.intro (aS CM.path) (aS CM.words))
   have OB1:=h_ (And.intro (aS GT.path) (aS GT.words))
   subst ea
   subst eb
   clear yF at2 ca cb CM GT hit hne hkl hcl
   go_upto_region 7 with(first
    |((with_reducible refine dZ ?_);refine Lr rfl (.tmp 32) rfl g1 (k*25) pa wa it H8.out RA.out (by simp[Act.eval]) ?_;refine aE rfl 41 rfl _ _ (yY _) ?_;refine VY rfl (.tmp 6) (.tmp 33) rfl pa wa it H8.out OA.out.1 OA.out.2 rfl rfl rfl ?_;intro w4 i4;have I4:=h_ i4;clear i4)
    |fail)
   have B4:=h_ I4.out.bq
   have F4:=h_ (BR.out.trans (B4.out.mono BR.out.size))
   obtain⟨q6,Xf⟩:=ap (wr.heap.size)
   rw[<-Xf]at I4 ⊢
   clear f1 f2 f3 f4 RA Xf
   obtain⟨f1,f2,f3,f4⟩:=iU.out w4 F4.out
   go_upto_region 8 with(first
    |((with_reducible refine dZ ?_);refine Lr rfl (.tmp 37) rfl g2 (k*25) pb wb it H8.out (RB.out _ B4.out) (by simp[Act.eval,Act.put]) ?_;refine aE rfl 41 rfl _ _ (yY _) ?_;refine VY rfl (.tmp 7) (.tmp 38) rfl pb wb it H8.out OB1.out.1 OB1.out.2 rfl rfl rfl ?_;intro w5 i5;have I5:=h_ i5;clear i5)
    |fail)
   have C6:=h_ (I4.out.cb.keep I5.out.bq)
   have B5:=h_ (B4.out.trans (I5.out.bq.mono B4.out.size))
   have F5:=h_ (BR.out.trans (B5.out.mono BR.out.size))
   obtain⟨q7,hq7⟩:=ap (w4.heap.size)
   rw[<-hq7]at I5 ⊢
   have C7:=h_ I5.out.cb
   obtain⟨rt,hrt⟩:=ap (it.right)
   have e0:w5.cell? ⟨q6,0,none⟩=some (.bool rt):=by rw[hrt];exact C6.out.ak rfl
   have e1:w5.cell? ⟨q7,0,none⟩=some (.bool rt):=by rw[hrt];exact C7.out.ak rfl
   have RU6:=h_ (show w5.rangeAt q6 1 (bH pa it.url)from C6.out.range (fun j x hj=>by rw[bY];exact ot hj))
   have RU7:=h_ (show w5.rangeAt q7 1 (bH pb it.url)from C7.out.range (fun j x hj=>by rw[bY];exact ot hj))
   have RI:=h_ ((PA.out.below B5.out).more B5.out.size)
   have HPB:=h_ ((PB.out.below B5.out).more B5.out.size)
   clear f1 f2 f3 f4 RB I4 I5 hq7 hrt PA PB B4 F4
   go_wp2_with (first
    |((with_reducible refine dZ ?_);refine Ls (by rfl) (.tmp 45) rfl q6 1 pa it.url H8.out rfl RU6.out ?_)
    |((with_reducible refine dZ ?_);refine Ls (by rfl) (.tmp 47) rfl q7 1 pb it.url H8.out rfl RU7.out ?_)
    |(go_at_call 47;refine(Dx it.url pa pb _ H8.out RI.out HPB.out).mono ?_;rintro e w6 ⟨rfl,hb⟩;have D6:=h_ (B5.out.trans (hb.mono B5.out.size));have e2:w6.cell? ⟨q6,24,none⟩=some wa:=(C6.out.keep hb).ak (by rw[bY];exact xS H8.out);have e3:w6.cell? ⟨q7,24,none⟩=some wb:=(C7.out.keep hb).ak (by rw[bY];exact xS H8.out);clear hb e0 e1)
    |(go_at_call 15;refine(ln it.words it.words wa wb _ _ _ (WA.out.below D6.out) (WB.out.below D6.out)).mono ?_;rintro e w7 ⟨rfl,hb⟩;rw[show decide (it.words=it.words)=true from decide_eq_true rfl];have D7:=h_ (D6.out.trans (hb.mono D6.out.size));clear hb)
    |fail)
   go_roundw
   case rel=>exact⟨k+1,by omega,by go_num,h_ (BR.out.trans (D7.out.mono BR.out.size))⟩
   case measure=>simp[intOf];omega
  obtain rfl:k=N:=by omega
  go_wp2_with fail
  go_ret
  exact⟨rfl,BW.out.trans (BR.out.mono BW.out.size)⟩
end Go.Proofs.YtmndlfglgcioeaaGreatDoor

/- IdnI IdnM IdnN IdnJ IdnQ: joined. -/
import Derived.Shelf.Strings.Split
import Derived.Shelf.Strings.OnBuilder
import Derived.Laws.OwnMore
import Derived.Test.YtmndlfglgcioeaaGreatDoorGIdnG
import Derived.Test.YtmndlfglgcioeaaGreatDoorGTextA
import Derived.Test.YtmndlfglgcioeaaGreatDoorGPunL
set_option maxHeartbeats 40000000
namespace Go.Proofs.YtmndlfglgcioeaaGreatDoor
open Tryz
open Go.RowKit
set_option maxRecDepth 10000
def Env (w:World):Prop:=rx w∧∃ m,w.cell? ⟨2,0,none⟩=some (.int .i64 m)
theorem Env.lt {w:World} (h:Env w):2<w.heap.size:=by
  obtain⟨_,m,hm⟩:=h
  exact block_lt_of_cell hm
theorem Env.below {w w':World} (h:Env w) (hb:Below w.heap.size w w'):Env w':=by
  obtain⟨h1,m,hm⟩:=h
  exact⟨h1.below hb,m,(hb.cell (p:=⟨2,0,none⟩) (block_lt_of_cell hm)).trans hm⟩
def Ou (c:Int):Bool:=decide ((fT c).2≠0)
def eA (l:List Int):Bytes:=l.flatMap (fun c=>(fT c).1)
theorem Im {l:List Int} {k:Nat} (h:k<l.length):eA (l.take (k+1))=eA (l.take k)++(fT l[k]).1:=by
  unfold eA
  rw[aH h,dP]
  simp
theorem AH (c:Int):(cf (mJ c)).length<=12:=by
  have h1:=GZ (mJ c)
  have h2:=Rc c
  omega
theorem Fa (c:Int):(fT c).1.length<=12:=by
  have h1:=AH c
  have h2:=(jT c).2
  unfold fT
  split
  · exact h1
  split
  · simp
  split
  · simp only;omega
  simp
theorem pO:∀ l:List Int,(eA l).length<=12*l.length
  | []=>by simp[eA]
  |c::r=>by
    have:=pO r
    have:=Fa c
    have e:eA (c::r)=(fT c).1++eA r:=by simp[eA]
    rw[e,af,ag];omega
def mj:ByteArray:=⟨#[46]⟩
def pieces (t:Bytes):List Bytes:=(Lib.splitB mj 0 (Lib.countB (bs t) mj) (bs t)).map ls
def Ov (p:Bytes):Bool:=(uV p).isSome
def gI (p:Bytes):Bytes:=(uV p).getD []
def gL (ps:List Bytes):Bytes:=Lib.join ps [46]
def kY (b:Bytes):Option Bytes :=
  if(signs b).all Ou=true then(if(pieces (eA (signs b))).all Ov=true then some (gL ((pieces (eA (signs b))).map gI))else none)else none
theorem YO {b:Bytes} {k:Nat} (h:k<(signs b).length) (hb:(fT (signs b)[k]).2=0):kY b=none:=by
  unfold kY
  rw[if_neg]
  intro ha
  have:=ch.mp ha _ (bJ h)
  unfold Ou at this
  simp[hb]at this
theorem YP {b:Bytes} (h:(signs b).all Ou=true) {p:Bytes} (hp:p∈pieces (eA (signs b))) (hb:uV p=none):kY b=none:=by
  unfold kY
  rw[if_pos h,if_neg]
  intro ha
  have:=ch.mp ha _ hp
  unfold Ov at this
  simp[hb]at this
theorem YQ {b:Bytes} (h:(signs b).all Ou=true) (h2:(pieces (eA (signs b))).all Ov=true):kY b=some (gL ((pieces (eA (signs b))).map gI)):=by
  unfold kY
  rw[if_pos h,if_pos h2]
abbrev Strs (l:List Bytes):List Value:=l.map fun b=>Value.string (bs b)
theorem PN {b0:Nat} {g:Option Nat} {w2 wr w3 w4:World} (h:Fr (fun k=>k=b0) w2 wr) (hb:Below wr.heap.size wr w3) (hr:Fr (fun k=>k=b0∨g=some k) w3 w4) (hg:∀ k,g=some k->w2.heap.size<=k):Fr (fun k=>k=b0) w2 w4:=by
  have h1:=h.trans (Fr.of_below hb)
  refine⟨hr.os.trans h1.os,hr.tape.trans h1.tape,hr.output.trans h1.output,aq h1.size hr.size,fun k hk hn=>?_⟩
  refine(hr.block k (aP hk h1.size) ?_).trans (h1.block k hk hn)
  rintro(h2|h2)
  · exact hn h2
  have:=hg k h2;omega
theorem vU {w:World} {base e n:Nat} {v:Value} {xs:List Value} (h:w.ownsRow base e 1 v n xs):(v=.slice none 0 0∧xs=[])∨∃ g c,v=.slice (some ⟨g,0,none⟩) n c∧base<=g∧g<w.heap.size∧∀ j (hj:j<xs.length),w.cell? ⟨g,0+j,none⟩=some xs[j]:=by
  have hl:=h.1
  rcases h.2 with⟨rfl,rfl⟩|⟨g,cap,cur,rfl,hg,hb,hn,hm,hsz,htk⟩
  · exact .inl ⟨rfl,am (by omega)⟩
  refine .inr ⟨g,cap,rfl,hg,?_,fun j hj=>?_⟩
  · rcases cU g w.heap.size with hlt|hge
    · exact hlt
    rw[cJ hge]at hb;cases hb
  have:=h.cells (g:=g) rfl j xs[j] (by simp)
  rwa [addr_add]at this
theorem QC (p:Bytes):(gI p).length<=3004+p.length:=by
  unfold gI uV
  have h2:=zv (signs p)
  split
  · split
    · split
      · split <;>simp
      simp
    simp
  split
  · simp
  split
  · split
    · rw[cP,af]
      have:jt.length=4:=rfl
      omega
    simp
  simp
theorem AA:∀ (k:Nat) (s:ByteArray),∀p∈Lib.splitB mj 0 k s,p.size<=s.size
  |0,s,p,h=>by
    rw[Lib.splitB_zero]at h
    simp at h;subst h;exact ae _
  |k+1,s,p,h=>by
    rcases Lib.indexB_cases s mj with hi|⟨i,hi,hle⟩
    · rw[Lib.splitB_miss _ _ _ _ hi]at h
      simp at h;subst h;exact ae _
    rw[Lib.splitB_hit _ _ _ _ i hi]at h
    rcases aN.mp h with rfl|h
    · simp[ByteArray.size_extract];omega
    have:=AA k _ p h
    simp only[ByteArray.size_extract]at this
    omega
theorem tM (t:Bytes):(pieces t).length=Lib.countB (bs t) mj+1∧Lib.countB (bs t) mj<=t.length:=by
  have h1:=Lib.countB_le mj (by decide) _ (bs t) (ae _)
  have h2:=Lib.splitB_all mj (by decide) 0 _ (bs t) rfl
  rw[aB]at h1
  exact⟨by unfold pieces;rw[aj,h2],h1⟩
theorem Di {t p:Bytes} (h:p∈pieces t):p.length<=t.length:=by
  unfold pieces at h
  obtain⟨q,hq,rfl⟩:=kj.mp h
  have:=AA _ _ q hq
  rw[aB]at this
  rw[de];exact this
theorem wJ (t:Bytes) (w:World) (hE:Env w) (ht:t.length<=1024000000) :
    Calls prog 210 #[.string (bs t),.string ⟨#[46]⟩] w fun e w'=>e=.returned (.slice (some ⟨w.heap.size,0,none⟩) (pieces t).length (pieces t).length)∧w'=w.alloc (.cells (Strs (pieces t)).toArray 9):=by
  obtain⟨_,m,hm⟩:=hE
  have h:=Any.strings_Split laysSplit (by kernel_rfl) (bs t) mj m w (by rw[aB];omega) hm (by decide)
  have e:Strs (pieces t)=(Lib.splitB mj 0 (Lib.countB (bs t) mj) (bs t)).map Value.string:=by
    show(List.map ls _).map (fun b=>Value.string (bs b))=_
    rw[nF]
    refine iC fun x _=>?_
    simp
  rw[(tM t).1,e]
  exact h
theorem BF:Builder.Extra prog laysJoin_ren:={
  sizeBuilder:=by kernel_rfl,
  liesBuilder:=by kernel_rfl,
  t5:=underlying5,
  a5:=isAgg5,
  z5:=sizeOf5,
  v5:=zeroValue5,
  infoByte:=by kernel_rfl,
  cellsByte:=by kernel_rfl,
  sizeByte:=by kernel_rfl,
  neB5:=by decide}
theorem G4 (g n c:Nat) (ps:List Bytes) (w:World) (h:∀ j (hj:j<ps.length),w.cell? ⟨g,0+j,none⟩=some (.string (bs ps[j]))) (hg:g<w.heap.size) (hn:n=ps.length) (hc:n<=c) (hl:n<=1024000000) (hJ:(gL ps).length<=1000000000000) :
    Calls prog 212 #[.slice (some ⟨g,0,none⟩) n c,.string ⟨#[46]⟩] w fun e w'=>e=.returned (S (gL ps))∧Below w.heap.size w w':=by
  subst hn
  have hmap:(ps.map bs).map (·.data.toList)=ps:=by rw[nF];conv=>rhs;rw[<-List.map_id ps]
                                                   refine iC fun x _=>?_
                                                   exact du x
  have h1:=Any.strings_Join laysJoin BF g 0 c (ps.map bs) mj w (fun j x hx=>by
      rw[er]at hx
      cases hp:ps[j]? with
      |none=>rw[hp]at hx;cases hx
      |some p =>
        rw[hp]at hx
        obtain⟨hjl,rfl⟩:=be.1 hp
        cases hx
        exact h j hjl) hg (by rw[aj];omega) (by rw[aj];exact hc)
    (by rw[hmap];show(gL ps).length<=_;omega)
  rw[hmap,aj]at h1
  exact h1

def kT:Bytes->List Bytes
 | []=>[[]]
 |x::r=>if x=46 then []::kT r else match kT r with | []=>[[x]]|p::ps=>(x::p)::ps
theorem Kz:kT []=[[]]:=rfl
theorem zh (r:Bytes):kT (46::r)=[]::kT r:=by rw[kT,if_pos rfl]
theorem rR:∀ t,∃p ps,kT t=p::ps
 | []=>⟨_,_,rfl⟩
 |x::r=>by
  unfold kT
  split
  ·exact⟨_,_,rfl⟩
  obtain⟨p,ps,h⟩:=rR r
  rw[h];exact⟨_,_,rfl⟩
theorem kU {x:UInt8} {r p:Bytes} {ps:List Bytes} (h:x≠46) (hr:kT r=p::ps):kT (x::r)=(x::p)::ps:=by
 rw[kT,if_neg h,hr]
theorem rW (x:UInt8) (r:Bytes):Lib.index (x::r) [46]=if x=46 then 0 else if Lib.index r [46]=-1 then -1 else Lib.index r [46]+1:=by
 rw[Lib.index_one,Lib.index_one,Lib.indexByte]
 by_cases h:x=46
 ·subst h;simp
 rw[if_neg h,if_neg (by simpa using h)]
 simp only[beq_iff_eq]
theorem mg (x:UInt8) (r:Bytes):Lib.count (x::r) [46]=if x=46 then Lib.count r [46]+1 else Lib.count r [46]:=by
 rw[Lib.count_one,Lib.count_one,List.count_cons]
 by_cases h:x=46
 ·subst h;simp
 simp[h]
theorem E5:∀ r:Bytes,Lib.count r [46]=0->Lib.index r [46]=-1∧kT r=[r]
 | [],_=>⟨by rw[Lib.index_one];rfl,rfl⟩
 |x::r,h=>by
  rw[mg]at h
  split at h
  ·omega
  next hx =>
  obtain⟨h1,h2⟩:=E5 r h
  exact⟨by rw[rW,if_neg hx,if_pos h1],kU hx h2⟩
theorem E6:∀ r:Bytes,Lib.count r [46]≠0->∃ i:Nat,Lib.index r [46]=i
 | [],h=>by rw[Lib.count_one]at h;simp at h
 |x::r,h=>by
  rw[mg]at h
  rw[rW]
  by_cases hx:x=46
  ·exact⟨0,by rw[if_pos hx];try rfl⟩
  rw[if_neg hx]at h
  obtain⟨i,hi⟩:=E6 r h
  exact⟨i+1,by rw[if_neg hx,if_neg (by omega),hi];rfl⟩
theorem oB {s:Bytes} {k i:Nat} (h:Lib.index s [46]=i):Lib.splitK [46] 0 (k+1) s=s.take i::Lib.splitK [46] 0 k (s.drop (i+1)):=by
 rw[Lib.splitK,if_neg (by rw[h];simp),h]
 rfl
theorem uh:∀ t:Bytes,Lib.splitK [46] 0 (Lib.count t [46]) t=kT t
 | []=>by
  rw[Lib.count_one]
  rfl
 |x::r=>by
  have ih:=uh r
  rw[mg]
  by_cases hx:x=46
  ·subst hx
   rw[if_pos rfl,oB (i:=0) (by rw[rW,if_pos rfl];rfl),zh]
   rw[show(46::r).drop (0+1)=r from rfl,ih]
   rfl
  rw[if_neg hx]
  by_cases h0:Lib.count r [46]=0
  ·rw[h0]
   exact(kU hx (E5 r h0).2).symm
  obtain⟨i,hi⟩:=E6 r h0
  obtain⟨k,hk⟩:∃ k,Lib.count r [46]=k+1:=⟨Lib.count r [46]-1,by omega⟩
  rw[hk,oB hi]at ih
  rw[hk,oB (i:=i+1) (by rw[rW,if_neg hx,if_neg (by omega),hi];rfl)]
  rw[kU hx ih.symm]
  rfl
theorem oy (t:Bytes):pieces t=kT t:=by
 unfold pieces
 have h:=Lib.splitB_data mj 0 (Lib.countB (bs t) mj) (bs t)
 have e1:(bs t).data.toList=t:=du t
 have e2:mj.data.toList=[46]:=rfl
 have e3:Lib.countB (bs t) mj=Lib.count t [46]:=by
  show Lib.count (bs t).data.toList mj.data.toList=_
  rw[e1,e2]
 rw[e1,e2,e3,uh]at h
 rw[e3]
 exact h
theorem tr (p:Bytes) (q:Bytes) (ps:List Bytes):gL (p::q::ps)=p++46::gL (q::ps):=by
 unfold gL
 rw[Lib.join_cons,Lib.join_cons]
 unfold Lib.joinTail
 simp
theorem tv:∀ t:Bytes,gL (kT t)=t
 | []=>by rw[Kz];unfold gL;rw[Lib.join_one]
 |x::r=>by
  have ih:=tv r
  obtain⟨p,ps,h⟩:=rR r
  by_cases hx:x=46
  ·subst hx
   rw[zh]
   rw[h]at ih ⊢
   rw[tr,ih];rfl
  rw[kU hx h]
  rw[h]at ih
  cases ps with
  |nil =>
   unfold gL at *
   rw[Lib.join_one]at *
   rw[ih]
  |cons q qs =>
   rw[tr]at *
   rw[<-ih];rfl

def UP (l:List Int):Option Bytes:=if l.all Ou=true then(if(kT (eA l)).all Ov=true then some (gL ((kT (eA l)).map gI))else none)else none
theorem Gr (b:Bytes):kY b=UP (signs b):=by unfold kY UP;rw[oy]

def yW (w:World) (o:Option Bytes):Ending->World->Prop:=fun e w'=>e=.returned (.tuple #[S (o.getD []),.bool o.isSome])∧Below w.heap.size w w'
theorem yW.none {w w':World} {o:Option Bytes} (h:o=none) (hb:Below w.heap.size w w'):yW w o (.returned (.tuple #[S [],.bool false])) w':=by subst h;exact⟨rfl,hb⟩
theorem yW.some {w w':World} {o:Option Bytes} {x:Bytes} {s:ByteArray} (h:o=some x) (hs:s=bs x) (hb:Below w.heap.size w w'):yW w o (.returned (.tuple #[.string s,.bool true])) w':=by subst h;subst hs;exact⟨rfl,hb⟩
theorem vP:∀ ps:List Bytes,Lib.lens (ps.map gI)<=3004*ps.length+Lib.lens ps
 | []=>by simp[Lib.lens]
 |x::r=>by
  have ih:=vP r
  have h:=QC x
  have e1:Lib.lens ((x::r).map gI)=(gI x).length+Lib.lens (r.map gI):=by simp[Lib.lens]
  have e2:Lib.lens (x::r)=x.length+Lib.lens r:=by simp[Lib.lens]
  rw[e1,e2,ag]
  omega
theorem ts (x:Bytes) (r:List Bytes):(gL (x::r)).length=Lib.lens (x::r)+r.length:=by
 unfold gL
 have e1:([46]:List UInt8).length=1:=rfl
 have e:Lib.lens (x::r)=x.length+Lib.lens r:=by simp[Lib.lens]
 rw[Lib.join_cons,af,Lib.joinTail_length,e1,e]
 omega
theorem xT (t:Bytes):(gL ((pieces t).map gI)).length<=3005*(t.length+1):=by
 rw[oy]
 obtain⟨p,ps,h⟩:=rR t
 have hj:=tv t
 rw[h]at hj ⊢
 have h1:=congrArg List.length hj
 rw[ts]at h1
 have h2:=vP (p::ps)
 rw[cO]at h2 ⊢
 rw[ts,aj]
 rw[ag]at h2
 omega
theorem Ab (w:World) (base e:Nat) (ps:List Bytes) (hb:base<=w.heap.size) (hl:ps.length<=1024000000) :
  (w.alloc (.cells (Strs ps).toArray e)).ownsRow base e 1 (.slice (some ⟨w.heap.size,0,none⟩) ps.length ps.length) ps.length (Strs ps) :=
 ⟨by simp,.inr ⟨w.heap.size,ps.length,_,rfl,hb,heap_alloc_new w _,ae _,by unfold maxLen;omega,by simp,aI (by simp)⟩⟩
theorem VW {α:Type} {f:α->α} {ps:List α} {k:Nat} (h:k<ps.length):((ps.take k).map f++ps.drop k)[k]? = some ps[k]:=by
 have hl:((ps.take k).map f).length=k:=by rw[aj,aA];omega
 rw[cu (by omega),hl,fc,jD,d8]
 exact az h
theorem Qu {α:Type} {f:α->α} {ps:List α} {k:Nat} (h:k<ps.length) {y:α} (hy:f ps[k]=y):((ps.take k).map f++ps.drop k).set k y=(ps.take (k+1)).map f++ps.drop (k+1):=by
 have hl:((ps.take k).map f).length=k:=by rw[aj,aA];omega
 rw[aH h,mN,ay h,a8l _ _ (by omega),hl,fc,aX,<-hy]
 rfl
theorem BX (b:Bytes) (w:World) (hb:b.length<=307200000) (ht:(eA (signs b)).length<=102400000) (hE:Env w):Calls prog 200 #[.string (bs b)] w fun e w'=>yW w (kY b) e w':=by
 have hsg:=fun W (h:Below w.heap.size w W)=>NO b W hb (hE.below h).1
 have hd1:∀ x∈signs b,(fT x).2=0->kY b=none:=by
  intro x hx h
  obtain⟨k,hk,rfl⟩:=dQ hx
  exact YO hk h
 have hd2:=fun(h:(signs b).all Ou=true) (p:Bytes) (hp:p∈pieces (eA (signs b))) (h2:uV p=none)=>YP h hp h2
 have hd3:=fun(h:(signs b).all Ou=true) (h2:(pieces (eA (signs b))).all Ov=true)=>YQ h h2
 obtain⟨O,hO⟩:=ap (kY b)
 rw[<-hO]at hd1 hd2 hd3 ⊢
 clear hO
 have hsl:=kD _ b (ae _)
 obtain⟨l,hl⟩:=ap (signs b)
 rw[<-hl]at hsg hsl ht hd1 hd2 hd3
 clear hl
 obtain⟨s,hs⟩:=ap (bs b)
 rw[<-hs]at hsg ⊢
 clear hs
 obtain⟨L,hL⟩:=ap (l.length)
 have Y8:L<=307200000:=by omega
 clear hsl hb
 have kJ:=h_ hsg;clear hsg
 have HD1:=h_ hd1;clear hd1
 have HD2:=h_ hd2;clear hd2
 have HD3:=h_ hd3;clear hd3
 have HL:=h_ hL;clear hL
 have HT:=h_ ht;clear ht
 have Oc:=h_ hE;clear hE
 go_enter func200,ntmps200
 go_wp2_with fail
 refine(kJ.out _ ((Below.refl _ _).alloc (ae _) _)).mono ?_
 rintro e w2 ⟨v2,rfl,ho2,hb2⟩
 have Zg:=(np.fresh w).below hb2
 have HB2:=h_ (((Below.refl _ w).alloc (ae _) _).trans (hb2.mono (by simp)));clear hb2
 have hat:∀ k (hk:k<l.length),∃gs c,v2=.slice (some ⟨gs,0,none⟩) L c∧w.heap.size<gs∧gs<w2.heap.size∧w2.cell? ⟨gs,0+k,none⟩=some (.int .i64 l[k]):=by
  intro k hk
  rcases vU ho2 with⟨_,h0⟩|⟨gs,c,h1,h2,h3,h4⟩
  ·have:(dw l).length=0:=by rw[h0];rfl
   rw[aj]at this;omega
  rw[show(dw l).length=L by rw[aj,HL.out]]at h1
  refine⟨gs,c,h1,by simp at h2;omega,h3,?_⟩
  have:=h4 k (by rw[aj];exact hk)
  simpa using this
 obtain⟨av,cv,hv⟩:=dt (Sl.bL ho2)
 rw[show(dw l).length=L by rw[aj,HL.out]]at hv
 subst hv
 clear ho2
 have HAT:=h_ hat;clear hat
 have nB:=h_ Zg;clear Zg
 have hz2:w.heap.size<w2.heap.size:=nB.out.lt
 go_wp2_with fail
 go_loopw [17] (fun iv wr=>∃ (k:Nat) (g:Option Nat),k<=L∧iv=.int .i64 k∧(l.take k).all Ou=true∧np w.heap.size g (eA (l.take k)) wr∧(∀j,g=some j->w2.heap.size<=j)∧Fr (fun j=>j=w.heap.size) w2 wr) (fun i _=>L-(intOf i).toNat)
 case atStart=>exact⟨0,none,by omega,by simp,by simp,by simpa[eA]using nB.out,by simp,Fr.of_below (Below.refl _ _)⟩
 case round =>
  obtain⟨k,g,hk,rfl,hall,hbd,hg,hfr⟩:=hrel
  have hbw:Below w.heap.size w wr:=HB2.out.trans (hfr.below (by omega) (fun j hj=>by omega))
  have HA:=h_ hall;clear hall
  have qR:=h_ hbd;clear hbd
  have HG:=h_ hg;clear hg
  have HF:=h_ hfr;clear hfr
  have DU:=h_ hbw;clear hbw
  by_cases hlt:k<L
  ·have hx:k<l.length:=by have:=HL.out;omega
   obtain⟨gs,c',Vn,a8Q,a35,hc2⟩:=HAT.out k hx
   obtain⟨rfl,rfl⟩:av=some ⟨gs,0,none⟩∧cv=c':=by injection Vn with e1 e2 e3;exact⟨e1,e3⟩
   have hcell:wr.cell? ⟨gs,0+k,none⟩=some (.int .i64 l[k]):=(World.cell?_of_block (w:=w2) (a:=⟨gs,0+k,none⟩) (HF.out.block gs a35 (by omega))).trans hc2
   rw[bk]at hcell
   clear Vn hc2
   have hts:=Im hx
   have hok:=fun h=>vj (f:=Ou) hx HA.out h
   have LD:=HD1.out _ (bJ hx)
   have hml:=Fa l[k]
   have htl:=pO (l.take k)
   rw[aA]at htl
   obtain⟨x,kL⟩:=ap (l[k])
   rw[<-kL]at hcell hts hok LD hml
   clear kL
   have hma:=fun W=>E9 x W
   have hok2:(fT x).2≠0->(l.take (k+1)).all Ou=true:=fun h=>hok (decide_eq_true h)
   clear hok
   obtain⟨K,hK⟩:=ap ((fT x).2)
   obtain⟨B,hB⟩:=ap ((fT x).1)
   rw[<-hB]at hts hml
   rw[<-hK]at LD hok2
   rw[<-hK,<-hB]at hma
   clear hK hB
   have WM:=h_ hma;clear hma
   have HTS:=h_ hts;clear hts
   have DX:(eA (l.take k)).length+B.length<=1099511627776:=by omega
   have a2j:=h_ DX;clear DX htl hml
   by_cases Xc:K=0
   ·have hf:=LD Xc
    have HO:=h_ hf;clear hf LD hok2
    subst Xc
    go_wp2_with fail
    refine(WM.out _).mono ?_
    rintro e w3 ⟨rfl,hb3⟩
    have HB3:=h_ (DU.out.trans (hb3.mono DU.out.size));clear hb3
    go_wp2_with fail
    go_ret2
    exact yW.none HO.out HB3.out
   have q0:(K==0)=false:=by simp[Xc]
   have zS:=hok2 Xc
   have HA2:=h_ zS;clear zS hok2 LD Xc
   go_wp2_with fail
   refine(WM.out _).mono ?_
   rintro e w3 ⟨rfl,hb3⟩
   have HB3:=h_ hb3;clear hb3
   go_wp2_with fail
   refine(iz B (qR.out.below HB3.out) a2j.out).mono ?_
   rintro e w4 ⟨rfl,hrb⟩
   have ru:=h_ hrb;clear hrb
   go_wp2_with fail
   obtain⟨g',a1,a2,a3⟩:=ru.out
   have RC:=h_ (PN HF.out HB3.out a3 HG.out)
   have HG':∀ j,g'=some j->w2.heap.size<=j:=by
    intro j hj
    rcases a2 with h|⟨j',h,h'⟩
    ·exact HG.out j (h▸hj)
    rw[h]at hj;injection hj with hj
    have:=HF.out.size
    have:=HB3.out.size
    omega
   have HG2:=h_ HG';clear HG' a2 a3
   have HA1:=h_ a1;clear a1
   go_roundw
   case rel=>exact⟨k+1,g',by omega,by simp,HA2.out,by rw[HTS.out];exact HA1.out,HG2.out,RC.out⟩
   case measure=>simp[intOf];omega
  obtain rfl:L=k:=by omega
  have hall:=HA.out
  have hbd:=qR.out
  rw[aI (by have:=HL.out;omega)]at hall hbd
  have hd2:=HD2.out hall
  have hd3:=HD3.out hall
  have ht:=HT.out
  obtain⟨t,AX⟩:=ap (eA l)
  rw[<-AX]at hd2 hd3 ht hbd
  clear AX hall
  have hstr:=jQ w.heap.size hbd (ae _) (fun j hj=>by have:=HG.out j hj;omega)
  have XO:=h_ hstr;clear hstr hbd
  have hpn:=tM t
  have hpl:=fun p (hp:p∈pieces t)=>Di hp
  have hsp:=fun W (h:Env W)=>wJ t W h (by omega)
  obtain⟨ps,hps⟩:=ap (pieces t)
  have hjo:(gL (ps.map gI)).length<=1000000000000:=by rw[hps];have:=xT t;omega
  have HJO:=h_ hjo;clear hjo
  rw[<-hps]at hd2 hd3 hpn hpl hsp
  clear hps
  obtain⟨N,hN⟩:=ap (ps.length)
  rw[<-hN]at hpn hsp
  have pg:N<=102400001:=by omega
  clear hpn
  have HN:=h_ hN;clear hN
  have gF:=h_ hsp;clear hsp
  have HP2:=h_ hd2;clear hd2
  have yQ:=h_ hd3;clear hd3
  have ZL:∀ p∈ps,p.length<=102400000:=fun p hp=>by have:=hpl p hp;omega
  have WO:=h_ ZL;clear ZL hpl ht
  go_wp2_with fail
  refine(XO.out).mono ?_
  rintro e w5 ⟨rfl,hb5⟩
  have fK:=h_ (DU.out.trans hb5);clear hb5
  go_wp2_with fail
  refine(gF.out _ (Oc.out.below fK.out)).mono ?_
  rintro e w6 ⟨rfl,Cz⟩
  have hown:w6.ownsRow w.heap.size 9 1 (.slice (some ⟨w5.heap.size,0,none⟩) N N) N (Strs ps):=by
   rw[Cz,HN.out]
   exact Ab w5 w.heap.size _ ps fK.out.size (by have:=HN.out;omega)
  have hb6:Below w.heap.size w w6:=by rw[Cz];exact fK.out.alloc fK.out.size _
  have hgS:w.heap.size<=w5.heap.size:=fK.out.size
  clear Cz
  obtain⟨gS,hgg⟩:=ap (w5.heap.size)
  rw[<-hgg]at hown hgS ⊢
  clear hgg
  have HOW:=h_ hown;clear hown
  have jB:=h_ hb6;clear hb6
  clear DU fK HF HG qR HA XO
  go_wp2_with fail
  go_loopw [35] (fun iv wr=>∃ (k:Nat),k<=N∧iv=.int .i64 k∧(ps.take k).all Ov=true∧wr.ownsRow w.heap.size 9 1 (.slice (some ⟨gS,0,none⟩) N N) N (Strs ((ps.take k).map gI++ps.drop k))∧Below w.heap.size w wr) (fun i _=>N-(intOf i).toNat)
  case atStart=>exact⟨0,by omega,by simp,by simp,by simpa using HOW.out,jB.out⟩
  case round =>
   obtain⟨k,hk,rfl,hall,hown,hbl⟩:=hrel
   have HA:=h_ hall;clear hall
   have HO:=h_ hown;clear hown
   have HB:=h_ hbl;clear hbl
   by_cases hlt2:k<N
   ·have hx:k<ps.length:=by have:=HN.out;omega
    have hcell:wr.cell? ⟨gS,k,none⟩=some (.string (bs ps[k])):=by
     have:=HO.out.cells (g:=gS) rfl k (.string (bs ps[k])) (by rw[er,VW hx];rfl)
     rwa [addr_add,bk]at this
    have hmem:ps[k]∈ps:=bJ hx
    have hwt:=AP ps[k] wr (WO.out _ hmem) (Oc.out.below HB.out).1
    have hbd:=HP2.out ps[k] hmem
    have hok:Ov ps[k]=true->(ps.take (k+1)).all Ov=true:=fun h=>by
     rw[aH hx,List.all_append,HA.out];simp[h]
    have hset:=fun y h=>Qu (f:=gI) hx (y:=y) h
    obtain⟨p,hp⟩:=ap (ps[k])
    rw[<-hp]at hcell hwt hbd hok hset
    clear hp hmem hx
    have HWT:=h_ hwt;clear hwt
    have HBAD:=h_ hbd;clear hbd
    have RH:=h_ hok;clear hok
    have TS:=h_ hset;clear hset
    cases hw:uV p with
    |none =>
     have OT:=h_ (HBAD.out hw)
     rw[hw]at HWT
     clear hw
     go_wp2_with fail
     refine(HWT.out).mono ?_
     rintro e w7 ⟨x,rfl,_,Oq⟩
     have HB7:=h_ (HB.out.trans (Oq.mono HB.out.size));clear Oq
     go_wp2_with fail
     go_ret2
     exact yW.none OT.out HB7.out
    |some y =>
     have hy1:gI p=y:=by unfold gI;rw[hw];rfl
     have hy2:Ov p=true:=by unfold Ov;rw[hw];rfl
     have HY1:=h_ (TS.out y hy1)
     have HY2:=h_ (RH.out hy2)
     rw[hw]at HWT
     clear hw hy1 hy2
     go_wp2_with fail
     refine(HWT.out).mono ?_
     rintro e w7 ⟨x,rfl,hx,Oq⟩
     obtain rfl:x=y:=hx y rfl
     clear hx
     have ho7:=own_below HO.out Oq
     have HB7:=h_ (HB.out.trans (Oq.mono HB.out.size))
     have a3Z:w7.cell? ⟨gS,k,none⟩=some (.string (bs p)):=by
      rw[Oq.cell (p:=⟨gS,k,none⟩) (block_lt_of_cell hcell)];exact hcell
     have a8P:=ho7.frozenAt k
     have hst:=ho7.stored k (.string (bs x))
     have S2:(Strs ((ps.take k).map gI++ps.drop k)).set k (.string (bs x))=Strs ((ps.take (k+1)).map gI++ps.drop (k+1)):=by
      rw[<-HY1.out]
      exact(a5F (f:=fun b=>Value.string (bs b))).symm
     have HST:=h_ (S2▸hst.1);clear hst S2 ho7 Oq
     go_wp2_with fail
     go_roundw
     case rel=>exact⟨k+1,by omega,by simp,HY2.out,HST.out,HB7.out.setCell hgS _⟩
     case measure=>simp[intOf];omega
   obtain rfl:N=k:=by omega
   have hall:=HA.out
   have hown:=HO.out
   rw[aI (by have:=HN.out;omega)]at hall hown
   rw[di (by have:=HN.out;omega),aV]at hown
   have hno:=yQ.out hall
   have OT:=h_ hno;clear hno hall
   have hml:(ps.map gI).length=N:=by rw[aj,HN.out]
   have hcs:∀ j (hj:j<(ps.map gI).length),wr.cell? ⟨gS,0+j,none⟩=some (.string (bs (ps.map gI)[j])):=by
    intro j hj
    have:=hown.cells (g:=gS) rfl j (.string (bs (ps.map gI)[j])) (by rw[er,az hj];rfl)
    rwa [addr_add]at this
   have Zr:=(hown.lt gS rfl).2
   have hjn:=G4 gS N N (ps.map gI) wr hcs Zr hml.symm (ae _) (by omega) HJO.out
   have yM:=h_ hjn;clear hjn hcs hml hown
   go_wp2_with fail
   refine(yM.out).mono ?_
   rintro e w8 ⟨rfl,AW⟩
   have HB8:=h_ (HB.out.trans (AW.mono HB.out.size));clear AW
   go_wp2_with fail
   go_ret2
   exact yW.some OT.out rfl HB8.out

theorem Gt (l:List Int):(encR l).1.length<=1+8*l.length:=by
 unfold encR
 split
 ·simp
 next h =>
 have h1:l.all sg=true:=by
  by_cases h2:l.all sg=true
  ·exact h2
  exact absurd (.inr h2) h
 obtain⟨W,e,_,hw,_⟩:=sK (ch.mp h1) (by omega)
 have hb:=si l
 have hh:(hyp (kr l)).length<=1:=by unfold hyp;split <;>simp
 simp only
 rw[e,af,af]
 omega
theorem M0 (p:Bytes):(gI p).length<=5+8*p.length:=by
 have h2:=Gt (signs p)
 have h3:=kD _ p (ae _)
 unfold gI uV
 split
 ·split
  ·split
   ·split
    ·rw[cP];omega
    simp
   simp
  simp
 split
 ·rw[cP];omega
 split
 ·split
  ·rw[cP,af]
   have:jt.length=4:=rfl
   omega
  simp
 simp
theorem pq (x:Bytes) (r:List Bytes):(gL (x::r)).length=Lib.lens (x::r)+r.length:=by
 unfold gL
 have e1:([46]:List UInt8).length=1:=rfl
 have e:Lib.lens (x::r)=x.length+Lib.lens r:=by simp[Lib.lens]
 rw[Lib.join_cons,af,Lib.joinTail_length,e1,e]
 omega
theorem z9:∀ ps:List Bytes,Lib.lens (ps.map gI)<=5*ps.length+8*Lib.lens ps
 | []=>by simp[Lib.lens]
 |p::ps=>by
  have ih:=z9 ps
  have hp:=M0 p
  have e1:Lib.lens ((p::ps).map gI)=(gI p).length+Lib.lens (ps.map gI):=by simp[Lib.lens]
  have e2:Lib.lens (p::ps)=p.length+Lib.lens ps:=by simp[Lib.lens]
  rw[e1,e2,ag]
  omega
theorem zt {b t:Bytes} (h:kY b=some t):t.length<=8*(eA (signs b)).length+8:=by
 rw[Gr]at h
 unfold UP at h
 split at h
 ·split at h
  ·have ht:=bw h
   obtain⟨p,ps,hp⟩:=rR (eA (signs b))
   have hj:=tv (eA (signs b))
   have hl:=z9 (p::ps)
   have hl2:=congrArg List.length hj
   rw[hp,pq]at hl2
   rw[<-ht,hp,cO,pq,aj]
   rw[cO,ag]at hl
   omega
  cases h
 cases h
end Go.Proofs.YtmndlfglgcioeaaGreatDoor

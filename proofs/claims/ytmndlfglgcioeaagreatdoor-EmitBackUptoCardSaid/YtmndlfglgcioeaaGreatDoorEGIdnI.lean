/- Joined texts. -/
import Derived.Shelf.Strings.Split
import Derived.Shelf.Strings.OnBuilder
import Derived.Laws.OwnMore
import Derived.Test.YtmndlfglgcioeaaGreatDoorEGIdnG
set_option maxHeartbeats 40000000
namespace Go.Proofs.YtmndlfglgcioeaaGreatDoor
open Tryz
open Go.RowKit
set_option maxRecDepth 10000
def Env(w:World):Prop:=up w∧∃ m,w.cell? ⟨2,0,none⟩=some (.int .i64 m)
theorem Env.below{w w':World}(h:Env w)(hb:Below w.heap.size w w'):Env w':=by
  obtain⟨h1,m,hm⟩:=h;exact⟨h1.below hb,m,(hb.cell (p:=⟨2,0,none⟩) (block_lt_of_cell hm)).trans hm⟩
def Ot(c:Int):Bool:=decide ((eA c).2≠0)
def el(l:List Int):Bytes:=l.flatMap (fun c=>(eA c).1)
theorem NO{l:List Int}{k:Nat}(h:k<l.length):el (l.take (k+1))=el (l.take k)++(eA l[k]).1:=by
  unfold el;rw[aI h,cQ];simp
theorem E5(c:Int):(cf (lF c)).length<=12:=by
  have h1:=MI (lF c);have h2:=KO c;omega
theorem Kj(c:Int):(eA c).1.length<=12:=by
  have h1:=E5 c;have h2:=(ns c).2;unfold eA
  split
  · exact h1
  split
  · simp
  split
  · simp only;omega
  simp
theorem pl:∀ l:List Int,(el l).length<=12*l.length
  | []=>by simp[el]
  |c::r=>by
    have:=pl r;have:=Kj c;have e:el (c::r)=(eA c).1++el r:=by simp[el]
    rw[e,ae,ag];omega
def oE:ByteArray:=⟨#[46]⟩
def pieces(t:Bytes):List Bytes:=(Lib.splitB oE 0 (Lib.countB (bs t) oE) (bs t)).map ls
def Ho(p:Bytes):Bool:=(yg p).isSome
def gn(p:Bytes):Bytes:=(yg p).getD []
def gl(ps:List Bytes):Bytes:=Lib.join ps [46]
def kL(b:Bytes):Option Bytes :=
  if(signs b).all Ot=true then(if(pieces (el (signs b))).all Ho=true then some (gl ((pieces (el (signs b))).map gn))else none)else none
theorem a3Y{b:Bytes}{k:Nat}(h:k<(signs b).length)(hb:(eA (signs b)[k]).2=0):kL b=none:=by
  unfold kL;rw[if_neg];intro ha;have:=bo.mp ha _ (bw h);unfold Ot at this;simp[hb]at this
theorem a3Z{b:Bytes}(h:(signs b).all Ot=true){p:Bytes}(hp:p∈pieces (el (signs b)))(hb:yg p=none):kL b=none:=by
  unfold kL;rw[if_pos h,if_neg];intro ha;have:=bo.mp ha _ hp;unfold Ho at this;simp[hb]at this
theorem a30{b:Bytes}(h:(signs b).all Ot=true)(h2:(pieces (el (signs b))).all Ho=true):kL b=some (gl ((pieces (el (signs b))).map gn)):=by
  unfold kL;rw[if_pos h,if_pos h2]
abbrev Strs(l:List Bytes):List Value:=l.map fun b=>Value.string (bs b)
theorem VZ{b0:Nat}{g:Option Nat}{w2 wr w3 w4:World}(h:Fr (fun k=>k=b0) w2 wr)(hb:Below wr.heap.size wr w3)(hr:Fr (fun k=>k=b0∨g=some k) w3 w4)(hg:∀ k,g=some k->w2.heap.size<=k):Fr (fun k=>k=b0) w2 w4:=by
  have h1:=h.trans (Fr.of_below hb);refine⟨hr.os.trans h1.os,hr.tape.trans h1.tape,hr.output.trans h1.output,ap h1.size hr.size,fun k hk hn=>?_⟩;refine(hr.block k (aQ hk h1.size) ?_).trans (h1.block k hk hn);rintro(h2|h2)
  · exact hn h2
  have:=hg k h2;omega
theorem M6{w:World}{base e n:Nat}{v:Value}{xs:List Value}(h:w.ownsRow base e 1 v n xs):(v=.slice none 0 0∧xs=[])∨∃ g c,v=.slice (some ⟨g,0,none⟩) n c∧base<=g∧g<w.heap.size∧∀ j (hj:j<xs.length),w.cell? ⟨g,0+j,none⟩=some xs[j]:=by
  have hl:=h.1;rcases h.2 with⟨rfl,rfl⟩|⟨g,cap,cur,rfl,hg,hb,hn,hm,hsz,htk⟩
  · exact .inl ⟨rfl,ak (by omega)⟩
  refine .inr ⟨g,cap,rfl,hg,?_,fun j hj=>?_⟩
  · rcases cZ g w.heap.size with hlt|hge
    · exact hlt
    rw[dm hge]at hb;cases hb
  have:=h.cells (g:=g) rfl j xs[j] (by simp)
  rwa [addr_add]at this
theorem WN(p:Bytes):(gn p).length<=3004+p.length:=by
  unfold gn yg;have h2:=Dq (signs p)
  split
  · split
    · split
      · split <;>simp
      simp
    simp
  split
  · simp
  split
  · split
    · rw[dy,ae]
      have:iY.length=4:=rfl;omega
    simp
  simp
theorem ET:∀ (k:Nat) (s:ByteArray),∀p∈Lib.splitB oE 0 k s,p.size<=s.size
  |0,s,p,h=>by
    rw[Lib.splitB_zero]at h;simp at h;subst h;exact af _
  |k+1,s,p,h=>by
    rcases Lib.indexB_cases s oE with hi|⟨i,hi,hle⟩
    · rw[Lib.splitB_miss _ _ _ _ hi]at h
      simp at h;subst h;exact af _
    rw[Lib.splitB_hit _ _ _ _ i hi]at h;rcases aj.mp h with rfl|h
    · simp[ByteArray.size_extract];omega
    have:=ET k _ p h;simp only[ByteArray.size_extract]at this;omega
theorem xl(t:Bytes):(pieces t).length=Lib.countB (bs t) oE+1∧Lib.countB (bs t) oE<=t.length:=by
  have h1:=Lib.countB_le oE (by decide) _ (bs t) (af _);have h2:=Lib.splitB_all oE (by decide) 0 _ (bs t) rfl;rw[aM]at h1;exact⟨by unfold pieces;rw[am,h2],h1⟩
theorem Hr{t p:Bytes}(h:p∈pieces t):p.length<=t.length:=by
  unfold pieces at h;obtain⟨q,hq,rfl⟩:=cm.mp h;have:=ET _ _ q hq;rw[aM]at this;rw[fx];exact this
theorem zV(t:Bytes)(w:World)(hE:Env w)(ht:t.length<=1024000000) :
    Calls prog 210 #[.string (bs t),.string ⟨#[46]⟩] w fun e w'=>e=.returned (.slice (some ⟨w.heap.size,0,none⟩) (pieces t).length (pieces t).length)∧w'=w.alloc (.cells (Strs (pieces t)).toArray 9):=by
  obtain⟨_,m,hm⟩:=hE;have h:=Any.strings_Split laysSplit (by kernel_rfl) (bs t) oE m w (by rw[aM];omega) hm (by decide)
  have e:Strs (pieces t)=(Lib.splitB oE 0 (Lib.countB (bs t) oE) (bs t)).map Value.string:=by
    show(List.map ls _).map (fun b=>Value.string (bs b))=_;rw[gP];refine eN fun x _=>?_;simp
  rw[(xl t).1,e];exact h
theorem FZ:Builder.Extra prog laysJoin_ren:={
  sizeBuilder:=by kernel_rfl,
  liesBuilder:=by kernel_rfl,
  t5:=underlying5,
  a5:=isAgg5,
  z5:=sizeOf5,
  v5:=zeroValue5,
  infoByte:=by kernel_rfl,
  cellsByte:=by kernel_rfl,
  sizeByte:=by kernel_rfl,
  neB5:=by decide}
theorem MK(g n c:Nat)(ps:List Bytes)(w:World)(h:∀ j (hj:j<ps.length),w.cell? ⟨g,0+j,none⟩=some (.string (bs ps[j])))(hg:g<w.heap.size)(hn:n=ps.length)(hc:n<=c)(hl:n<=1024000000)(hJ:(gl ps).length<=1000000000000) :
    bN prog 212 #[.slice (some ⟨g,0,none⟩) n c,.string ⟨#[46]⟩] w (S (gl ps)):=by
  subst hn
  have hmap:(ps.map bs).map (·.data.toList)=ps:=by rw[gP];conv=>rhs;rw[<-List.map_id ps]
                                                   refine eN fun x _=>?_;exact dR x
  have h1:=Any.strings_Join laysJoin FZ g 0 c (ps.map bs) oE w (fun j x hx=>by
      rw[eI]at hx;cases hp:ps[j]? with
      |none=>rw[hp]at hx;cases hx
      |some p =>
        rw[hp]at hx;obtain⟨hjl,rfl⟩:=bf.1 hp;cases hx;exact h j hjl) hg (by rw[am];omega) (by rw[am];exact hc)
    (by rw[hmap];show(gl ps).length<=_;omega)
  rw[hmap,am]at h1;exact h1

theorem Xr{x:Int}(h:¬ ((0x41<=x∧x<=0x5a)∨(0xc0<=x∧x<=0xd6)∨(0xd8<=x∧x<=0xde)∨(0x391<=x∧x<=0x3a1)∨(0x3a3<=x∧x<=0x3a9)∨(0x410<=x∧x<=0x42f)∨((0x100<=x∧x<=0x12e)∧x%2=0)∨x=0x130∨(0x400<=x∧x<=0x40f)∨x=0x2024∨x=0x3002∨x=0xff61∨x=0x2100∨x=0x2105∨(0x2460<=x∧x<=0x2468)∨(0xff01<=x∧x<=0xff5e)∨(0x1d7ce<=x∧x<=0x1d7ff))):lF x=[]:=by
 unfold lF
 iterate 11 rw[if_neg (by omega)]
theorem mO{x:Int}(h:¬ ((0x41<=x∧x<=0x5a)∨(0xc0<=x∧x<=0xd6)∨(0xd8<=x∧x<=0xde)∨(0x391<=x∧x<=0x3a1)∨(0x3a3<=x∧x<=0x3a9)∨(0x410<=x∧x<=0x42f)∨((0x100<=x∧x<=0x12e)∧x%2=0)∨x=0x130∨(0x400<=x∧x<=0x40f)∨x=0x2024∨x=0x3002∨x=0xff61∨x=0x2100∨x=0x2105∨(0x2460<=x∧x<=0x2468)∨(0xff01<=x∧x<=0xff5e)∨(0x1d7ce<=x∧x<=0x1d7ff)))
  (hv:TL x):eA x=(enc x,1):=by
 have hg:DI x=false:=by
  unfold TL at hv;unfold DI;exact decide_eq_false (by omega)
 exact xc (Xr h) hg ((TM x).mpr hv)
theorem Iy(c:Int):∀ x∈lF c,eA x=(enc x,1)∧x≠c∧Utf8.valid x=true:=by
 intro x hx;rcases xS c with⟨h,e⟩|⟨h,h2,e⟩|⟨h,h2,e⟩|⟨h,e⟩|⟨h,e⟩|⟨h,e⟩|⟨h,e⟩|⟨h,e⟩|⟨h,e⟩|⟨h,e⟩|⟨h,e⟩|⟨h,e⟩|⟨h,e⟩
 all_goals rw[e]at hx
 all_goals clear e
 iterate 2
  ·simp only[bE]at hx
   subst hx;exact⟨mO (by omega) (by unfold TL;omega),by omega,(dG _).mpr (by omega)⟩
 ·simp at hx
 ·simp only[aj,bl,or_false]at hx
  rcases hx with rfl|rfl
  all_goals exact⟨mO (by omega) (by unfold TL;omega),by omega,(dG _).mpr (by omega)⟩
 iterate 2
  ·simp only[bE]at hx
   subst hx;exact⟨mO (by omega) (by unfold TL;omega),by omega,(dG _).mpr (by omega)⟩
 iterate 2
  ·simp only[aj,bl,or_false]at hx
   rcases hx with rfl|rfl|rfl
   all_goals exact⟨mO (by omega) (by unfold TL;omega),by omega,(dG _).mpr (by omega)⟩
 iterate 4
  ·simp only[bE]at hx
   subst hx;exact⟨mO (by omega) (by unfold TL;omega),by omega,(dG _).mpr (by omega)⟩
 simp at hx
theorem NA{c:Int}(h:Utf8.valid c=true):signs (enc c)=[c]:=by
 have:=zT c [];rw[aG,pP,Qz h]at this;exact this
theorem TO{c:Int}(h:TK c=true):Utf8.valid c=true:=by
 have:=(TM c).mp h;unfold TL at this;exact(dG c).mpr (by omega)
theorem sY(c:Int):((eA c)=(enc c,1)∧lF c=[]∧signs (enc c)=[c])∨(eA c=(cf (lF c),2)∧1<=(lF c).length∧(lF c).length<=3)∨(eA c=([],3))∨(eA c=([],0)):=by
 rcases zp c with⟨b,h,_,rfl,e⟩|⟨h,h2,e⟩|⟨h,h2,h3,e⟩|⟨h,h2,h3,e⟩
 ·refine .inr (.inl ⟨e,?_,KO c⟩)
  cases ht:lF c with
  |nil=>exact absurd ht h
  |cons x r=>simp
 ·exact .inr (.inr (.inl e))
 ·exact .inl ⟨e,h,NA (TO h3)⟩
 exact .inr (.inr (.inr e))

def iU:Bytes->List Bytes
 | []=>[[]]
 |x::r=>if x=46 then []::iU r else match iU r with | []=>[[x]]|p::ps=>(x::p)::ps
theorem CY:iU []=[[]]:=rfl
theorem mD(r:Bytes):iU (46::r)=[]::iU r:=by rw[iU,if_pos rfl]
theorem pE:∀ t,∃p ps,iU t=p::ps
 | []=>⟨_,_,rfl⟩
 |x::r=>by
  unfold iU
  split
  ·exact⟨_,_,rfl⟩
  obtain⟨p,ps,h⟩:=pE r;rw[h];exact⟨_,_,rfl⟩
theorem fT{x:UInt8}{r p:Bytes}{ps:List Bytes}(h:x≠46)(hr:iU r=p::ps):iU (x::r)=(x::p)::ps:=by
 rw[iU,if_neg h,hr]
theorem u9(x:UInt8)(r:Bytes):Lib.index (x::r) [46]=if x=46 then 0 else if Lib.index r [46]=-1 then -1 else Lib.index r [46]+1:=by
 rw[Lib.index_one,Lib.index_one,Lib.indexByte];by_cases h:x=46
 ·subst h;simp
 rw[if_neg h,if_neg (by simpa using h)];simp only[beq_iff_eq]
theorem oB(x:UInt8)(r:Bytes):Lib.count (x::r) [46]=if x=46 then Lib.count r [46]+1 else Lib.count r [46]:=by
 rw[Lib.count_one,Lib.count_one,List.count_cons];by_cases h:x=46
 ·subst h;simp
 simp[h]
theorem Ke:∀ r:Bytes,Lib.count r [46]=0->Lib.index r [46]=-1∧iU r=[r]
 | [],_=>⟨by rw[Lib.index_one];rfl,rfl⟩
 |x::r,h=>by
  rw[oB]at h
  split at h
  ·omega
  next hx =>
  obtain⟨h1,h2⟩:=Ke r h;exact⟨by rw[u9,if_neg hx,if_pos h1],fT hx h2⟩
theorem Kf:∀ r:Bytes,Lib.count r [46]≠0->∃ i:Nat,Lib.index r [46]=i
 | [],h=>by rw[Lib.count_one]at h;simp at h
 |x::r,h=>by
  rw[oB]at h;rw[u9];by_cases hx:x=46
  ·exact⟨0,by rw[if_pos hx];try rfl⟩
  rw[if_neg hx]at h;obtain⟨i,hi⟩:=Kf r h;exact⟨i+1,by rw[if_neg hx,if_neg (by omega),hi];rfl⟩
theorem rc{s:Bytes}{k i:Nat}(h:Lib.index s [46]=i):Lib.splitK [46] 0 (k+1) s=s.take i::Lib.splitK [46] 0 k (s.drop (i+1)):=by
 rw[Lib.splitK,if_neg (by rw[h];simp),h];rfl
theorem xL:∀ t:Bytes,Lib.splitK [46] 0 (Lib.count t [46]) t=iU t
 | []=>by
  rw[Lib.count_one];rfl
 |x::r=>by
  have ih:=xL r;rw[oB];by_cases hx:x=46
  ·subst hx
   rw[if_pos rfl,rc (i:=0) (by rw[u9,if_pos rfl];rfl),mD];rw[show(46::r).drop (0+1)=r from rfl,ih];rfl
  rw[if_neg hx];by_cases h0:Lib.count r [46]=0
  ·rw[h0]
   exact(fT hx (Ke r h0).2).symm
  obtain⟨i,hi⟩:=Kf r h0;obtain⟨k,hk⟩:∃ k,Lib.count r [46]=k+1:=⟨Lib.count r [46]-1,by omega⟩;rw[hk,rc hi]at ih;rw[hk,rc (i:=i+1) (by rw[u9,if_neg hx,if_neg (by omega),hi];rfl)];rw[fT hx ih.symm];rfl
theorem qV(t:Bytes):pieces t=iU t:=by
 unfold pieces;have h:=Lib.splitB_data oE 0 (Lib.countB (bs t) oE) (bs t);have e1:(bs t).data.toList=t:=dR t;have e2:oE.data.toList=[46]:=rfl
 have e3:Lib.countB (bs t) oE=Lib.count t [46]:=by
  show Lib.count (bs t).data.toList oE.data.toList=_;rw[e1,e2]
 rw[e1,e2,e3,xL]at h;rw[e3];exact h
theorem CX:∀ a b:Bytes,iU (a++46::b)=iU a++iU b
 | [],b=>by rw[bJ,mD,CY];rfl
 |x::r,b=>by
  have ih:=CX r b;obtain⟨p,ps,h⟩:=pE r;by_cases hx:x=46
  ·subst hx
   rw[bd,mD,mD,ih];rfl
  rw[h]at ih;rw[bd,fT hx ih,fT hx h];rfl
theorem lm(p:Bytes)(q:Bytes)(ps:List Bytes):gl (p::q::ps)=p++46::gl (q::ps):=by
 unfold gl;rw[Lib.join_cons,Lib.join_cons];unfold Lib.joinTail;simp
theorem oR:∀ t:Bytes,gl (iU t)=t
 | []=>by rw[CY];unfold gl;rw[Lib.join_one]
 |x::r=>by
  have ih:=oR r;obtain⟨p,ps,h⟩:=pE r;by_cases hx:x=46
  ·subst hx
   rw[mD];rw[h]at ih ⊢;rw[lm,ih];rfl
  rw[fT hx h];rw[h]at ih;cases ps with
  |nil =>
   unfold gl at *;rw[Lib.join_one]at *;rw[ih]
  |cons q qs =>
   rw[lm]at *;rw[<-ih];rfl
theorem Dd:∀ (p:Bytes) (ps:List Bytes),(∀q∈p::ps,46∉q)->iU (gl (p::ps))=p::ps
 |p,[],h=>by
  unfold gl;rw[Lib.join_one];have hp:=h p (by simp);clear h
  induction p with
  |nil=>rfl
  |cons x r ih =>
   have hx:x≠46:=fun h=>hp (by simp[h]);exact fT hx (ih (fun h=>hp (by simp[h])))
 |p,q::qs,h=>by
  have ih:=Dd q qs (fun z hz=>h z (by simp only[aj]at hz ⊢;exact .inr hz))
  have hp:iU p=[p]:=by
   have hp:=h p (by simp);clear h ih
   induction p with
   |nil=>rfl
   |cons x r ih =>
    have hx:x≠46:=fun h=>hp (by simp[h]);exact fT hx (ih (fun h=>hp (by simp[h])))
  rw[lm,CX,hp,ih];rfl
def rB:List Int->List (List Int)
 | []=>[[]]
 |c::r=>if c=46 then []::rB r else match rB r with | []=>[[c]]|p::ps=>(c::p)::ps
theorem uX:∀ t,∃p ps,rB t=p::ps
 | []=>⟨_,_,rfl⟩
 |x::r=>by
  unfold rB
  split
  ·exact⟨_,_,rfl⟩
  obtain⟨p,ps,h⟩:=uX r;rw[h];exact⟨_,_,rfl⟩
theorem vA{x:Int}{r p:List Int}{ps:List (List Int)}(h:x≠46)(hr:rB r=p::ps):rB (x::r)=(x::p)::ps:=by
 rw[rB,if_neg h,hr]
theorem Da:∀ (e t p:Bytes) (ps:List Bytes),46∉e->iU t=p::ps->iU (e++t)=(e++p)::ps
 | [],t,p,ps,_,h=>h
 |x::e,t,p,ps,he,h=>by
  have ih:=Da e t p ps (fun h2=>he (by simp[h2])) h;exact fT (fun h2=>he (by simp[h2])) ih
theorem LW{c:Int}(hv:Utf8.valid c=true)(h:c≠46):(46:UInt8)∉enc c:=by
 have hr:=(dG c).mp hv;intro hm
 have key:∀ n:Int,0<=n->n<256->n≠46->(46:UInt8)≠UInt8.ofNat n.toNat:=by
  intro n h0 h1 h2 e;have:=congrArg b2 e;rw[ry (by omega)]at this;have e46:b2 46=46:=by decide
  omega
 by_cases h1:c<0x80
 ·rw[rE (by omega) h1]at hm
  simp only[bE]at hm;exact key c (by omega) (by omega) h hm
 by_cases h2:c<0x800
 ·rw[vQ (by omega) h2]at hm
  simp only[aj,bl,or_false]at hm;rcases hm with hm|hm
  all_goals exact key _ (by omega) (by omega) (by omega) hm
 by_cases h3:c<0x10000
 ·rw[rF (by omega) h3 (by omega)]at hm
  simp only[aj,bl,or_false]at hm;rcases hm with hm|hm|hm
  all_goals exact key _ (by omega) (by omega) (by omega) hm
 rw[vR (by omega) (by omega)]at hm;simp only[aj,bl,or_false]at hm;rcases hm with hm|hm|hm|hm
 all_goals exact key _ (by omega) (by omega) (by omega) hm
theorem yW:∀ l:List Int,(∀c∈l,Utf8.valid c=true)->iU (cf l)=(rB l).map cf
 | [],_=>rfl
 |c::r,h=>by
  have ih:=yW r (fun x hx=>h x (by simp[hx]));obtain⟨p,ps,hp⟩:=uX r;rw[dW];by_cases hc:c=46
  ·subst hc
   have e:enc 46=[46]:=by decide +kernel
   rw[e,yI,mD,ih,rB,if_pos rfl];rfl
  rw[hp]at ih;rw[Da _ _ _ _ (LW (h c (by simp)) hc) ih,vA hc hp];rfl
theorem Db:∀ (l:List Int),∀p∈rB l,∀c∈p,c∈l∧c≠46
 | [],p,h,c,hc=>by
  have:p=[]:=by simpa[rB]using h
  subst this;simp at hc
 |x::r,p,h,c,hc=>by
  have ih:=Db r;obtain⟨q,qs,hq⟩:=uX r;by_cases hx:x=46
  ·subst hx
   rw[rB,if_pos rfl]at h;rcases aj.mp h with rfl|h
   ·simp at hc
   have:=ih p h c hc;exact⟨by simp[this.1],this.2⟩
  rw[vA hx hq]at h;rcases aj.mp h with rfl|h
  ·rcases aj.mp hc with rfl|hc
   ·exact⟨by simp,hx⟩
   have:=ih q (by rw[hq];simp) c hc;exact⟨by simp[this.1],this.2⟩
  have:=ih p (by rw[hq];simp[h]) c hc;exact⟨by simp[this.1],this.2⟩

def msF(c:Int):List Int:=if(eA c).2=2 then lF c else if(eA c).2=1 then [c]else []
theorem a04(c:Int):(eA c).1=cf (msF c):=by
 unfold msF;rcases sY c with⟨e,h0,h1⟩|⟨e,h1,h2⟩|e|e
 all_goals rw[e]
 ·simp[join_one]
 ·simp
 ·simp[cf]
 simp[cf]
theorem a5x(c:Int):∀ x∈msF c,eA x=(enc x,1)∧Utf8.valid x=true:=by
 intro x hx;unfold msF at hx;rcases sY c with⟨e,h0,h1⟩|⟨e,h1,h2⟩|e|e
 all_goals rw[e]at hx
 ·simp at hx
  subst hx;refine⟨e,?_⟩;exact ph (enc x) x (by rw[h1];simp)
 ·simp at hx
  have:=Iy c x hx;exact⟨this.1,this.2.2⟩
 ·simp at hx
 simp at hx
def msL(l:List Int):List Int:=l.flatMap msF
theorem a07(l:List Int):∀ x∈msL l,eA x=(enc x,1)∧Utf8.valid x=true:=by
 intro x hx;obtain⟨c,_,hc⟩:=cT.mp hx;exact a5x c x hc
theorem z8:∀ l:List Int,el l=cf (msL l)
 | []=>rfl
 |c::r=>by
  have ih:=z8 r;have e:el (c::r)=(eA c).1++el r:=by simp[el]
  have e2:msL (c::r)=msF c++msL r:=by simp[msL]
  rw[e,e2,nu,ih,a04]
theorem tv:∀ {m:List Int},(∀x∈m,eA x=(enc x,1))->el m=cf m∧m.all Ot=true
 | [],_=>⟨rfl,rfl⟩
 |c::r,h=>by
  obtain⟨h1,h2⟩:=tv (m:=r) (fun x hx=>h x (by simp[hx]));have hc:=h c (by simp);have e:el (c::r)=(eA c).1++el r:=by simp[el]
  rw[e,dW,h1,hc];refine⟨rfl,?_⟩;simp only[tG,h2,jq];unfold Ot;rw[hc];rfl
def LO(l:List Int):Option Bytes:=if l.all Ot=true then(if(iU (el l)).all Ho=true then some (gl ((iU (el l)).map gn))else none)else none
theorem pF(b:Bytes):kL b=LO (signs b):=by unfold kL LO;rw[qV]

theorem St{c:Int}(h:M3 c=true):eA c=(enc c,1)∧Utf8.valid c=true∧c≠46:=by
 have h2:=of_decide_eq_true h;rcases sY c with⟨e,h0,h1⟩|⟨e,_⟩|e|e
 ·exact⟨e,ph (enc c) c (by rw[h1];simp),h2.2⟩
 iterate 3
  ·rw[e]at h2;simp at h2
theorem Wo{l:List Int}(h:ny l=true):(∀c∈l,M3 c=true)∧∃ c∈l,127<c:=by
 unfold ny at h;rw[bD,bD]at h;refine⟨bo.mp h.1.2,?_⟩;obtain⟨c,hc,hf⟩:=kr.mp h.2;exact⟨c,hc,of_decide_eq_true hf⟩
theorem TJ{c:Int}(h:Utf8.valid c=true):sg c=true:=by
 have:=(dG c).mp h;exact pe.mpr (by omega)
theorem zu{c:Int}(h:eA c=(enc c,1)):¬ (65<=c∧c<=90):=by
 intro hc;have:lF c=[c+0x20]:=by unfold lF;rw[if_pos (by omega)]
 have e:=Kh (c:=c) (by rw[this];simp);rw[h]at e;have:=congrArg Prod.snd e;simp at this
theorem MT{l:List Int}(hv:∀ c∈l,Utf8.valid c=true)(h:km (cf l)=true):∀ c∈l,c<0x80:=by
 induction l with
 |nil=>simp
 |cons x r ih =>
  rw[dW,Ww,bD]at h;intro c hc;rcases aj.mp hc with rfl|hc
  ·by_cases h1:c<0x80
   ·exact h1
   have:=(Qn (hv c (by simp)) h1).2;rw[this]at h;exact absurd h.1 (by simp)
  exact ih (fun x hx=>hv x (by simp[hx])) h.2 c hc
theorem pg{l:List Int}(hv:∀ c∈l,Utf8.valid c=true):signs (cf l)=l:=by
 have:=q9 l [];rw[aG,pP,aG,Wz hv]at this;exact this
theorem Z9{l:List Int}(h:ny l=true)(hl:l.length<=255):encR l=(qI l,true)∧(∀c∈l,sg c=true)∧1<=(qI l).length:=by
 obtain⟨h1,c,hc,hf⟩:=Wo h;have hs:∀ c∈l,sg c=true:=fun x hx=>TJ (St (h1 x hx)).2.1;refine⟨?_,hs,?_⟩
 ·unfold encR
  rw[if_neg];rintro(h|h)
  ·omega
  exact h (bo.mpr hs)
 obtain⟨W,e,_,_,h4⟩:=np hs hl;rw[e,ae];by_cases hw:W.length=0
 ·exfalso
  have hb:=h4 hw;have hb2:(jt l).length=(l.filter (fun c=>decide (c<128))).length:=by unfold jt;rw[am]
  rw[hb2]at hb;have:=Ok.mp hb c hc;have:=of_decide_eq_true this;omega
 omega
def La(p:Bytes):Prop:=(∀y∈p,b2 y<0x80∧¬ (65<=b2 y∧b2 y<=90)∧y≠46)∧yg p=some p
theorem WZ(t:Bytes):Lib.hasPrefix (iY++t) iY=true:=by
 unfold Lib.hasPrefix;exact dD.mpr ⟨t,rfl⟩
theorem Sj{p:Bytes}(h:∀ y∈p,b2 y<0x80):km p=true:=bo.mpr fun y hy=>decide_eq_true (h y hy)
theorem SH{q:List Int}(hq:∀ c∈q,eA c=(enc c,1)∧Utf8.valid c=true∧c≠46)(hok:Ho (cf q)=true):La (gn (cf q)):=by
 have hv:∀ c∈q,Utf8.valid c=true:=fun c hc=>(hq c hc).2.1;have hsl:=pg hv
 obtain⟨y,hy⟩:∃ y,yg (cf q)=some y:=by
  unfold Ho at hok;exact tI.mp hok
 have ho:gn (cf q)=y:=by unfold gn;rw[hy];rfl
 rw[ho];cases hl:km (cf q)
 ·
  have hp:Lib.hasPrefix (cf q) iY=false:=by
   cases hp:Lib.hasPrefix (cf q) iY
   ·rfl
   rw[a6b hp hl]at hy;cases hy
  have hla:ny (signs (cf q))=true:=by
   cases hla:ny (signs (cf q))
   ·rw[a6d hp hl hla]at hy;cases hy
   rfl
  rw[a6e hp hl hla,hsl]at hy;rw[hsl]at hla
  have hlen:q.length<=255∧encR q=(qI q,true):=by
   unfold encR at hy ⊢
   split at hy
   ·simp at hy
   next h =>
   rw[if_neg h];exact⟨by omega,rfl⟩
  rw[hlen.2]at hy;simp only[if_true]at hy;have hyy:y=iY++qI q:=(bp hy).symm;obtain⟨_,hs,_⟩:=Z9 hla hlen.1;obtain⟨W,e,hW,_⟩:=np hs hlen.1
  have hbytes:∀ z∈y,b2 z<0x80∧¬ (65<=b2 z∧b2 z<=90)∧z≠46:=by
   intro z hz;rw[hyy,e]at hz;have h46:b2 46=46:=by decide
   rcases au.mp hz with hz|hz
   ·have:z=120∨z=110∨z=45:=by
     have:z∈([120,110,45,45]:Bytes):=hz;simp only[aj,bl,or_false]at this;rcases this with h|h|h|h <;>simp[h]
    rcases this with rfl|rfl|rfl <;>decide
   rcases au.mp hz with hz|hz
   ·rcases au.mp hz with hz|hz
    ·unfold jt at hz
     obtain⟨c,hc,rfl⟩:=cm.mp hz;obtain⟨hc1,hc2⟩:=yu.mp hc;have hc3:=of_decide_eq_true hc2;have hk:=hq c hc1;have hr:=(dG c).mp hk.2.1;have hn:=zu hk.1;have eb:b2 (UInt8.ofNat c.toNat)=c:=ry (by omega);refine⟨by omega,by omega,fun h=>?_⟩;rw[h,h46]at eb;exact hk.2.2 eb.symm
    unfold hyp at hz
    split at hz
    ·simp at hz
    simp only[bE]at hz;subst hz;decide
   have:=hW z hz;unfold uy at this;refine⟨by omega,by omega,fun h=>?_⟩;rw[h,h46]at this;omega
  refine⟨hbytes,?_⟩;have hlow:km y=true:=Sj fun z hz=>(hbytes z hz).1;rw[hyy]at hlow ⊢;have hd:(iY++qI q).drop 4=qI q:=rfl;rw[a1S (WZ _) hlow (by rw[hd];exact Gf hs hlen.1),hla];rfl
 
 have hyp:y=cf q:=by
  cases hp:Lib.hasPrefix (cf q) iY
  ·rw[a1T hp hl]at hy;exact(bp hy).symm
  cases hd:vB ((cf q).drop 4)with
  |none=>rw[a6c hp hl hd]at hy;cases hy
  |some l =>
   rw[a1S hp hl hd]at hy
   split at hy
   ·exact(bp hy).symm
   cases hy
 subst hyp;refine⟨?_,hy⟩;have hlt:=MT hv hl;intro z hz;obtain⟨c,hc,hz⟩:=cT.mp hz;have hk:=hq c hc;have hr:=(dG c).mp hk.2.1;have hn:=zu hk.1;rw[rE (by omega) (hlt c hc)]at hz;simp only[bE]at hz;have eb:b2 z=c:=by rw[hz];exact ry (by have:=hlt c hc;omega)
 have h46:b2 46=46:=by decide
 refine⟨by have:=hlt c hc;omega,by omega,fun h=>?_⟩;rw[h,h46]at eb;exact hk.2.2 eb.symm
theorem rp{t:Bytes}(h:∀ y∈t,b2 y<0x80):t=cf (t.map b2):=by
 induction t with
 |nil=>rfl
 |cons x r ih =>
  rw[dw,dW,AN (h x (by simp)),<-ih (fun y hy=>h y (by simp[hy]))];rfl
theorem Kk{c:Int}(h0:0<=c)(h1:c<0x80)(h2:¬ (65<=c∧c<=90)):eA c=(enc c,1):=mO (by omega) (by unfold TL;omega)
theorem Dp{b t:Bytes}(h:kL b=some t):(∀y∈t,b2 y<0x80∧¬ (65<=b2 y∧b2 y<=90))∧kL t=some t:=by
 rw[pF]at h;unfold LO at h
 split at h
 ·split at h
  ·next hok =>
   have ht:=(bp h).symm;rw[z8]at ht hok;have hms:=a07 (signs b);generalize msL (signs b)=m at *;have hv:∀ c∈m,Utf8.valid c=true:=fun c hc=>(hms c hc).2;rw[yW m hv]at ht hok
   have DP:∀ o∈((rB m).map cf).map gn,La o:=by
    intro o ho;obtain⟨p,hp,rfl⟩:=cm.mp ho;obtain⟨q,hq,rfl⟩:=cm.mp hp;refine SH (fun c hc=>?_) (bo.mp hok _ hp);have hm:=Db m q hq c hc;exact⟨(hms c hm.1).1,(hms c hm.1).2,hm.2⟩
   obtain⟨o,os,hos⟩:∃ o os,((rB m).map cf).map gn=o::os:=by
    obtain⟨p,ps,hp⟩:=uX m;rw[hp];exact⟨_,_,rfl⟩
   rw[hos]at ht DP;have hcut:=Dd o os (fun q hq h2=>((DP q hq).1 46 h2).2.2 rfl);rw[<-ht]at hcut
   have hbytes:∀ y∈t,b2 y<0x80∧¬ (65<=b2 y∧b2 y<=90):=by
    have key:∀ (p:Bytes) (ps:List Bytes),(∀q∈p::ps,La q)->∀ y∈gl (p::ps),b2 y<0x80∧¬ (65<=b2 y∧b2 y<=90):=by
     intro p ps
     induction ps generalizing p with
     |nil =>
      intro hf y hy;unfold gl at hy;rw[Lib.join_one]at hy;have:=(hf p (by simp)).1 y hy;exact⟨this.1,this.2.1⟩
     |cons q qs ih =>
      intro hf y hy;rw[lm]at hy;rcases au.mp hy with hy|hy
      ·have:=(hf p (by simp)).1 y hy
       exact⟨this.1,this.2.1⟩
      rcases aj.mp hy with rfl|hy
      ·decide
      exact ih q (fun z hz=>hf z (by simp only[aj]at hz ⊢;exact .inr hz)) y hy
    rw[ht];exact key o os DP
   refine⟨hbytes,?_⟩;have hj:=rp (fun y hy=>(hbytes y hy).1)
   have hmap:∀ c∈t.map b2,eA c=(enc c,1)∧Utf8.valid c=true:=by
    intro c hc;obtain⟨y,hy,rfl⟩:=cm.mp hc;have h1:=hbytes y hy;have h0:=jr y;exact⟨Kk h0.1 h1.1 h1.2,(dG _).mpr (by omega)⟩
   have hsg:signs t=t.map b2:=by
    conv=>lhs;rw[hj]
    exact pg (fun c hc=>(hmap c hc).2)
   obtain⟨t1,t2⟩:=tv (m:=t.map b2) (fun c hc=>(hmap c hc).1);rw[<-hj]at t1;rw[pF,hsg];unfold LO;rw[if_pos t2,t1,hcut]
   have hout:(o::os).map gn=o::os:=by
    conv=>rhs;rw[<-List.map_id (o::os)]
    refine eN fun q hq=>?_;unfold gn;rw[(DP q hq).2];rfl
   rw[if_pos,hout,<-ht];exact bo.mpr fun q hq=>by unfold Ho;rw[(DP q hq).2];rfl
  cases h
 cases h

def Cz(w:World)(o:Option Bytes):Ending->World->Prop:=fun e w'=>e=.returned (.tuple #[S (o.getD []),.bool o.isSome])∧Below w.heap.size w w'
theorem Cz.none{w w':World}{o:Option Bytes}(h:o=none)(hb:Below w.heap.size w w'):Cz w o (.returned (.tuple #[S [],.bool false])) w':=by subst h;exact⟨rfl,hb⟩
theorem Cz.some{w w':World}{o:Option Bytes}{x:Bytes}{s:ByteArray}(h:o=some x)(hs:s=bs x)(hb:Below w.heap.size w w'):Cz w o (.returned (.tuple #[.string s,.bool true])) w':=by subst h;subst hs;exact⟨rfl,hb⟩
theorem zm:∀ ps:List Bytes,Lib.lens (ps.map gn)<=3004*ps.length+Lib.lens ps
 | []=>by simp[Lib.lens]
 |x::r=>by
  have ih:=zm r;have h:=WN x;have e1:Lib.lens ((x::r).map gn)=(gn x).length+Lib.lens (r.map gn):=by simp[Lib.lens]
  have e2:Lib.lens (x::r)=x.length+Lib.lens r:=by simp[Lib.lens]
  rw[e1,e2,ag];omega
theorem wT(x:Bytes)(r:List Bytes):(gl (x::r)).length=Lib.lens (x::r)+r.length:=by
 unfold gl;have e1:([46]:List UInt8).length=1:=rfl;have e:Lib.lens (x::r)=x.length+Lib.lens r:=by simp[Lib.lens]
 rw[Lib.join_cons,ae,Lib.joinTail_length,e1,e];omega
theorem Bi(t:Bytes):(gl ((pieces t).map gn)).length<=3005*(t.length+1):=by
 rw[qV];obtain⟨p,ps,h⟩:=pE t;have hj:=oR t;rw[h]at hj ⊢;have h1:=congrArg List.length hj;rw[wT]at h1;have h2:=zm (p::ps);rw[dw]at h2 ⊢;rw[wT,am];rw[ag]at h2;omega
theorem Ek(w:World)(base e:Nat)(ps:List Bytes)(hb:base<=w.heap.size)(hl:ps.length<=1024000000) :
  (w.alloc (.cells (Strs ps).toArray e)).ownsRow base e 1 (.slice (some ⟨w.heap.size,0,none⟩) ps.length ps.length) ps.length (Strs ps) :=
 ⟨by simp,.inr ⟨w.heap.size,ps.length,_,rfl,hb,heap_alloc_new w _,af _,by unfold maxLen;omega,by simp,aP (by simp)⟩⟩
theorem a06{α:Type}{f:α->α}{ps:List α}{k:Nat}(h:k<ps.length):((ps.take k).map f++ps.drop k)[k]? = some ps[k]:=by
 have hl:((ps.take k).map f).length=k:=by rw[am,aE];omega
 rw[cu (by omega),hl,gR,fY,dU];exact aJ h
theorem WC{α:Type}{f:α->α}{ps:List α}{k:Nat}(h:k<ps.length){y:α}(hy:f ps[k]=y):((ps.take k).map f++ps.drop k).set k y=(ps.take (k+1)).map f++ps.drop (k+1):=by
 have hl:((ps.take k).map f).length=k:=by rw[am,aE];omega
 rw[aI h,py,aq h,b20 _ _ (by omega),hl,gR,aT,<-hy];rfl
theorem Gj(b:Bytes)(w:World)(hb:b.length<=307200000)(ht:(el (signs b)).length<=102400000)(hE:Env w):Calls prog 200 #[.string (bs b)] w fun e w'=>Cz w (kL b) e w':=by
 have hsg:=fun W (h:Below w.heap.size w W)=>TD b W hb (hE.below h).1
 have hd1:∀ x∈signs b,(eA x).2=0->kL b=none:=by
  intro x hx h;obtain⟨k,hk,rfl⟩:=dz hx;exact a3Y hk h
 have hd2:=fun(h:(signs b).all Ot=true) (p:Bytes) (hp:p∈pieces (el (signs b))) (h2:yg p=none)=>a3Z h hp h2;have hd3:=fun(h:(signs b).all Ot=true) (h2:(pieces (el (signs b))).all Ho=true)=>a30 h h2;obtain⟨O,hO⟩:=az (kL b);rw[<-hO]at hd1 hd2 hd3 ⊢;clear hO;have hsl:=k6 _ b (af _);obtain⟨l,hl⟩:=az (signs b);rw[<-hl]at hsg hsl ht hd1 hd2 hd3;clear hl;obtain⟨s,hs⟩:=az (bs b);rw[<-hs]at hsg ⊢;clear hs;obtain⟨L,hL⟩:=az (l.length);have hLm:L<=307200000:=by omega
 clear hsl hb;have mX:=h_ hsg;clear hsg;have HD1:=h_ hd1;clear hd1;have HD2:=h_ hd2;clear hd2;have HD3:=h_ hd3;clear hd3;have HL:=h_ hL;clear hL;have HT:=h_ ht;clear ht;have Uc:=h_ hE;clear hE;go_enter func200,ntmps200
 go_wp2_with fail
 refine(mX.out _ ((Below.refl _ _).alloc (af _) _)).mono ?_;rintro e w2 ⟨v2,rfl,ho2,hb2⟩;have a4s:=(tD.fresh w).below hb2;have HB2:=h_ (((Below.refl _ w).alloc (af _) _).trans (hb2.mono (by simp)));clear hb2
 have hat:∀ k (hk:k<l.length),∃gs c,v2=.slice (some ⟨gs,0,none⟩) L c∧w.heap.size<gs∧gs<w2.heap.size∧w2.cell? ⟨gs,0+k,none⟩=some (.int .i64 l[k]):=by
  intro k hk;rcases M6 ho2 with⟨_,h0⟩|⟨gs,c,h1,h2,h3,h4⟩
  ·have:(ed l).length=0:=by rw[h0];rfl
   rw[am]at this;omega
  rw[show(ed l).length=L by rw[am,HL.out]]at h1;refine⟨gs,c,h1,by simp at h2;omega,h3,?_⟩;have:=h4 k (by rw[am];exact hk)
  simpa using this
 obtain⟨av,cv,hv⟩:=dN (Sl.dM ho2);rw[show(ed l).length=L by rw[am,HL.out]]at hv;subst hv;clear ho2;have HAT:=h_ hat;clear hat;have mW:=h_ a4s;clear a4s;have hz2:w.heap.size<w2.heap.size:=mW.out.lt
 go_wp2_with fail
 go_loopw [17] (fun iv wr=>∃ (k:Nat) (g:Option Nat),k<=L∧iv=.int .i64 k∧(l.take k).all Ot=true∧tD w.heap.size g (el (l.take k)) wr∧(∀j,g=some j->w2.heap.size<=j)∧Fr (fun j=>j=w.heap.size) w2 wr) (fun i _=>L-(intOf i).toNat)
 case atStart=>exact⟨0,none,by omega,by simp,by simp,by simpa[el]using mW.out,by simp,Fr.of_below (Below.refl _ _)⟩
 case round =>
  obtain⟨k,g,hk,rfl,hall,hbd,hg,hfr⟩:=hrel;have hbw:Below w.heap.size w wr:=HB2.out.trans (hfr.below (by omega) (fun j hj=>by omega));have HA:=h_ hall;clear hall;have qy:=h_ hbd;clear hbd;have HG:=h_ hg;clear hg;have HF:=h_ hfr;clear hfr;have IM:=h_ hbw;clear hbw;by_cases hlt:k<L
  ·have hx:k<l.length:=by have:=HL.out;omega
   obtain⟨gs,c',hav,b3B,a9m,hc2⟩:=HAT.out k hx;obtain⟨rfl,rfl⟩:av=some ⟨gs,0,none⟩∧cv=c':=by injection hav with e1 e2 e3;exact⟨e1,e3⟩
   have hcell:wr.cell? ⟨gs,0+k,none⟩=some (.int .i64 l[k]):=(World.cell?_of_block (w:=w2) (a:=⟨gs,0+k,none⟩) (HF.out.block gs a9m (by omega))).trans hc2;rw[bC]at hcell;clear hav hc2;have hts:=NO hx;have hok:=fun h=>yN (f:=Ot) hx HA.out h;have QR:=HD1.out _ (bw hx);have hml:=Kj l[k];have htl:=pl (l.take k);rw[aE]at htl;obtain⟨x,mZ⟩:=az (l[k]);rw[<-mZ]at hcell hts hok QR hml;clear mZ;have hma:=fun W=>Ki x W;have hok2:(eA x).2≠0->(l.take (k+1)).all Ot=true:=fun h=>hok (decide_eq_true h);clear hok;obtain⟨K,hK⟩:=az ((eA x).2);obtain⟨B,hB⟩:=az ((eA x).1);rw[<-hB]at hts hml;rw[<-hK]at QR hok2;rw[<-hK,<-hB]at hma;clear hK hB;have HMA:=h_ hma;clear hma;have HTS:=h_ hts;clear hts;have OL:(el (l.take k)).length+B.length<=1099511627776:=by omega
   have a7O:=h_ OL;clear OL htl hml;by_cases hK0:K=0
   ·have hf:=QR hK0
    have HO:=h_ hf;clear hf QR hok2;subst hK0
    go_wp2_with fail
    refine(HMA.out _).mono ?_;rintro e w3 ⟨rfl,hb3⟩;have HB3:=h_ (IM.out.trans (hb3.mono IM.out.size));clear hb3
    go_wp2_with fail
    go_ret2
    exact Cz.none HO.out HB3.out
   have q0:(K==0)=false:=by simp[hK0]
   have DK:=hok2 hK0;have HA2:=h_ DK;clear DK hok2 QR hK0
   go_wp2_with fail
   refine(HMA.out _).mono ?_;rintro e w3 ⟨rfl,hb3⟩;have HB3:=h_ hb3;clear hb3
   go_wp2_with fail
   refine(iT B (qy.out.below HB3.out) a7O.out).mono ?_;rintro e w4 ⟨rfl,hrb⟩;have uK:=h_ hrb;clear hrb
   go_wp2_with fail
   obtain⟨g',a1,a2,a3⟩:=uK.out;have XS:=h_ (VZ HF.out HB3.out a3 HG.out)
   have HG':∀ j,g'=some j->w2.heap.size<=j:=by
    intro j hj;rcases a2 with h|⟨j',h,h'⟩
    ·exact HG.out j (h▸hj)
    rw[h]at hj;injection hj with hj
    have:=HF.out.size;have:=HB3.out.size;omega
   have HG2:=h_ HG';clear HG' a2 a3;have HA1:=h_ a1;clear a1;go_roundw
   case rel=>exact⟨k+1,g',by omega,by simp,HA2.out,by rw[HTS.out];exact HA1.out,HG2.out,XS.out⟩
   case measure=>simp[intOf];omega
  obtain rfl:L=k:=by omega
  have hall:=HA.out;have hbd:=qy.out;rw[aP (by have:=HL.out;omega)]at hall hbd;have hd2:=HD2.out hall;have hd3:=HD3.out hall;have ht:=HT.out;obtain⟨t,Fv⟩:=az (el l);rw[<-Fv]at hd2 hd3 ht hbd;clear Fv hall;have hstr:=lM w.heap.size hbd (af _) (fun j hj=>by have:=HG.out j hj;omega);have a29:=h_ hstr;clear hstr hbd;have hpn:=xl t;have hpl:=fun p (hp:p∈pieces t)=>Hr hp;have hsp:=fun W (h:Env W)=>zV t W h (by omega);obtain⟨ps,hps⟩:=az (pieces t);have hjo:(gl (ps.map gn)).length<=1000000000000:=by rw[hps];have:=Bi t;omega
  have HJO:=h_ hjo;clear hjo;rw[<-hps]at hd2 hd3 hpn hpl hsp;clear hps;obtain⟨N,hN⟩:=az (ps.length);rw[<-hN]at hpn hsp;have p7:N<=102400001:=by omega
  clear hpn;have HN:=h_ hN;clear hN;have j0:=h_ hsp;clear hsp;have HP2:=h_ hd2;clear hd2;have Ct:=h_ hd3;clear hd3;have a4T:∀ p∈ps,p.length<=102400000:=fun p hp=>by have:=hpl p hp;omega
  have HPL:=h_ a4T;clear a4T hpl ht
  go_wp2_with fail
  refine(a29.out).mono ?_;rintro e w5 ⟨rfl,hb5⟩;have gH:=h_ (IM.out.trans hb5);clear hb5
  go_wp2_with fail
  refine(j0.out _ (Uc.out.below gH.out)).mono ?_;rintro e w6 ⟨rfl,GJ⟩
  have hown:w6.ownsRow w.heap.size 9 1 (.slice (some ⟨w5.heap.size,0,none⟩) N N) N (Strs ps):=by
   rw[GJ,HN.out];exact Ek w5 w.heap.size _ ps gH.out.size (by have:=HN.out;omega)
  have hb6:Below w.heap.size w w6:=by rw[GJ];exact gH.out.alloc gH.out.size _
  have hgS:w.heap.size<=w5.heap.size:=gH.out.size;clear GJ;obtain⟨gS,hgg⟩:=az (w5.heap.size);rw[<-hgg]at hown hgS ⊢;clear hgg;have HOW:=h_ hown;clear hown;have jM:=h_ hb6;clear hb6;clear IM gH HF HG qy HA a29
  go_wp2_with fail
  go_loopw [35] (fun iv wr=>∃ (k:Nat),k<=N∧iv=.int .i64 k∧(ps.take k).all Ho=true∧wr.ownsRow w.heap.size 9 1 (.slice (some ⟨gS,0,none⟩) N N) N (Strs ((ps.take k).map gn++ps.drop k))∧Below w.heap.size w wr) (fun i _=>N-(intOf i).toNat)
  case atStart=>exact⟨0,by omega,by simp,by simp,by simpa using HOW.out,jM.out⟩
  case round =>
   obtain⟨k,hk,rfl,hall,hown,hbl⟩:=hrel;have HA:=h_ hall;clear hall;have HO:=h_ hown;clear hown;have HB:=h_ hbl;clear hbl;by_cases hlt2:k<N
   ·have hx:k<ps.length:=by have:=HN.out;omega
    have hcell:wr.cell? ⟨gS,k,none⟩=some (.string (bs ps[k])):=by
     have:=HO.out.cells (g:=gS) rfl k (.string (bs ps[k])) (by rw[eI,a06 hx];rfl)
     rwa [addr_add,bC]at this
    have hmem:ps[k]∈ps:=bw hx;have hwt:=Fl ps[k] wr (HPL.out _ hmem) (Uc.out.below HB.out).1;have hbd:=HP2.out ps[k] hmem
    have hok:Ho ps[k]=true->(ps.take (k+1)).all Ho=true:=fun h=>by
     rw[aI hx,X9,HA.out];simp[h]
    have hset:=fun y h=>WC (f:=gn) hx (y:=y) h;obtain⟨p,hp⟩:=az (ps[k]);rw[<-hp]at hcell hwt hbd hok hset;clear hp hmem hx;have OS:=h_ hwt;clear hwt;have HBAD:=h_ hbd;clear hbd;have OM:=h_ hok;clear hok;have Zn:=h_ hset;clear hset;cases hw:yg p with
    |none =>
     have UQ:=h_ (HBAD.out hw);rw[hw]at OS;clear hw
     go_wp2_with fail
     refine(OS.out).mono ?_;rintro e w7 ⟨x,rfl,_,Ft⟩;have Uz:=h_ (HB.out.trans (Ft.mono HB.out.size));clear Ft
     go_wp2_with fail
     go_ret2
     exact Cz.none UQ.out Uz.out
    |some y =>
     have hy1:gn p=y:=by unfold gn;rw[hw];rfl
     have hy2:Ho p=true:=by unfold Ho;rw[hw];rfl
     have HY1:=h_ (Zn.out y hy1);have HY2:=h_ (OM.out hy2);rw[hw]at OS;clear hw hy1 hy2
     go_wp2_with fail
     refine(OS.out).mono ?_;rintro e w7 ⟨x,rfl,hx,Ft⟩;obtain rfl:x=y:=hx y rfl;clear hx;have ho7:=own_below HO.out Ft;have Uz:=h_ (HB.out.trans (Ft.mono HB.out.size))
     have a9g:w7.cell? ⟨gS,k,none⟩=some (.string (bs p)):=by
      rw[Ft.cell (p:=⟨gS,k,none⟩) (block_lt_of_cell hcell)];exact hcell
     have b3z:=ho7.frozenAt k;have hst:=ho7.stored k (.string (bs x))
     have Yx:(Strs ((ps.take k).map gn++ps.drop k)).set k (.string (bs x))=Strs ((ps.take (k+1)).map gn++ps.drop (k+1)):=by
      rw[<-HY1.out];exact(List.map_set (f:=fun b=>Value.string (bs b))).symm
     have HST:=h_ (Yx▸hst.1);clear hst Yx ho7 Ft
     go_wp2_with fail
     go_roundw
     case rel=>exact⟨k+1,by omega,by simp,HY2.out,HST.out,Uz.out.setCell hgS _⟩
     case measure=>simp[intOf];omega
   obtain rfl:N=k:=by omega
   have hall:=HA.out;have hown:=HO.out;rw[aP (by have:=HN.out;omega)]at hall hown;rw[dK (by have:=HN.out;omega),aG]at hown;have hno:=Ct.out hall;have UQ:=h_ hno;clear hno hall;have hml:(ps.map gn).length=N:=by rw[am,HN.out]
   have hcs:∀ j (hj:j<(ps.map gn).length),wr.cell? ⟨gS,0+j,none⟩=some (.string (bs (ps.map gn)[j])):=by
    intro j hj;have:=hown.cells (g:=gS) rfl j (.string (bs (ps.map gn)[j])) (by rw[eI,aJ hj];rfl)
    rwa [addr_add]at this
   have a4D:=(hown.lt gS rfl).2;have hjn:=MK gS N N (ps.map gn) wr hcs a4D hml.symm (af _) (by omega) HJO.out;have Ud:=h_ hjn;clear hjn hcs hml hown
   go_wp2_with fail
   refine(Ud.out).mono ?_;rintro e w8 ⟨rfl,Fu⟩;have HB8:=h_ (HB.out.trans (Fu.mono HB.out.size));clear Fu
   go_wp2_with fail
   go_ret2
   exact Cz.some UQ.out rfl HB8.out

def fin(out:Bytes)(R:List Bytes):Option Bytes:=if R.all Ho=true then some (out++gl (R.map gn))else none

theorem LV(l:List Int):(encR l).1.length<=1+8*l.length:=by
 unfold encR
 split
 ·simp
 next h =>
 have h1:l.all sg=true:=by
  by_cases h2:l.all sg=true
  ·exact h2
  exact absurd (.inr h2) h
 obtain⟨W,e,_,hw,_⟩:=np (bo.mp h1) (by omega);have hb:=sG l;have hh:(hyp (jt l)).length<=1:=by unfold hyp;split <;>simp
 simp only;rw[e,ae,ae];omega
theorem SI(p:Bytes):(gn p).length<=5+8*p.length:=by
 have h2:=LV (signs p);have h3:=k6 _ p (af _);unfold gn yg
 split
 ·split
  ·split
   ·split
    ·rw[dy];omega
    simp
   simp
  simp
 split
 ·rw[dy];omega
 split
 ·split
  ·rw[dy,ae]
   have:iY.length=4:=rfl;omega
  simp
 simp
theorem rS(x:Bytes)(r:List Bytes):(gl (x::r)).length=Lib.lens (x::r)+r.length:=by
 unfold gl;have e1:([46]:List UInt8).length=1:=rfl;have e:Lib.lens (x::r)=x.length+Lib.lens r:=by simp[Lib.lens]
 rw[Lib.join_cons,ae,Lib.joinTail_length,e1,e];omega
theorem Ee:∀ ps:List Bytes,Lib.lens (ps.map gn)<=5*ps.length+8*Lib.lens ps
 | []=>by simp[Lib.lens]
 |p::ps=>by
  have ih:=Ee ps;have hp:=SI p;have e1:Lib.lens ((p::ps).map gn)=(gn p).length+Lib.lens (ps.map gn):=by simp[Lib.lens]
  have e2:Lib.lens (p::ps)=p.length+Lib.lens ps:=by simp[Lib.lens]
  rw[e1,e2,ag];omega
theorem vK{b t:Bytes}(h:kL b=some t):t.length<=8*(el (signs b)).length+8:=by
 rw[pF]at h;unfold LO at h
 split at h
 ·split at h
  ·have ht:=bp h
   obtain⟨p,ps,hp⟩:=pE (el (signs b));have hj:=oR (el (signs b));have hl:=Ee (p::ps);have hl2:=congrArg List.length hj;rw[hp,rS]at hl2;rw[<-ht,hp,dw,rS,am];rw[dw,ag]at hl;omega
  cases h
 cases h
end Go.Proofs.YtmndlfglgcioeaaGreatDoor

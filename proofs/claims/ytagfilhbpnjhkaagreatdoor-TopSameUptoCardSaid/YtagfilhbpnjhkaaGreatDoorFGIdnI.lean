import Derived.Shelf.Strings.Split
import Derived.Shelf.Strings.OnBuilder
import Derived.Laws.OwnMore
import Derived.Test.YtagfilhbpnjhkaaGreatDoorFGIdnG
set_option maxRecDepth 10000
set_option maxHeartbeats 0
namespace Go.Proofs.Q
open Tryz Go.RowKit
def Env(w:H):Prop:=uL w/\∃m,w.cell? ⟨0,0,none⟩=some (.int .i64 m)
theorem Env.below{w a:H}(h:Env w)(U:r7 w a):Env a:=by
  obtain⟨Y,m,hm⟩:=h;exact⟨Y.below U,m,(U.cell (p:=⟨0,0,none⟩) (block_lt_of_cell hm)).trans hm⟩
def Tg(c:Int):Bool:=decide ((gV c).2≠0)
def fq(l:List Int):O:=l.flatMap (λc=>(gV c).1)
theorem MA{l:List Int}{k:Nat}(h:k<l.length):fq (l.take (k+1))=fq (l.take k)++(gV l[k]).1:=by
  unfold fq;rw[aH h,dL];simp
theorem DV(c:Int):(fp (oE c)).length<=12:=by
  have Y:=Lu (oE c);have I:=Wv c;omega
theorem Jn(c:Int):(gV c).1.length<=12:=by
  have Y:=DV c;have I:=(oN c).2;unfold gV
  split
  · exact Y
  split
  · simp
  split
  · simp only;omega
  simp
theorem rx:∀l:List Int,(fq l).length<=12*l.length
  | []=>by simp[fq]
  |c::r=>by
    have:=rx r;have:=Jn c;have e:fq (c::r)=(gV c).1++fq r:=by simp[fq]
    rw[e,ae,cz];omega
def nU:ByteArray:=⟨#[46]⟩
def pieces(t:O):List O:=(Lib.splitB nU 0 (Lib.countB (E t) nU) (E t)).map ls
def Q7(p:O):Bool:=(xJ p).isSome
def iz(p:O):O:=(xJ p).getD []
def iw(ps:List O):O:=Lib.join ps [46]
def nw(b:O):Option O :=
  if(signs b).all Tg=true then(if(pieces (fq (signs b))).all Q7=true then some (iw ((pieces (fq (signs b))).map iz))else none)else none
theorem a3z{b:O}{k:Nat}(h:k<(signs b).length)(U:(gV (signs b)[k]).2=0):nw b=none:=by
  unfold nw;rw[gc];intro a;have:=dl.mp a _ (be h);unfold Tg at this;simp[U]at this
theorem a3A{b:O}(h:(signs b).all Tg=true){p:O}(hp:p∈pieces (fq (signs b)))(U:xJ p=none):nw b=none:=by
  unfold nw;rw[ge h,gc];intro a;have:=dl.mp a _ hp;unfold Q7 at this;simp[U]at this
theorem a3B{b:O}(h:(signs b).all Tg=true)(I:(pieces (fq (signs b))).all Q7=true):nw b=some (iw ((pieces (fq (signs b))).map iz)):=by
  unfold nw;rw[ge h,ge I]
abbrev Strs(l:List O):List Z:=l.map λb=>Value.string (E b)
theorem UQ{c:Nat}{g:Option Nat}{d wr i j:H}(h:Fr (λk=>k=c) d wr)(U:r7 wr i)(a:Fr (λk=>k=c\/g=some k) i j)(l:∀k,g=some k->d.heap.size<=k):Fr (λk=>k=c) d j:=by
  have Y:=h.trans (Fr.of_below U);refine⟨a.os.trans Y.os,a.tape.trans Y.tape,a.output.trans Y.output,am Y.size a.size,λk e f=>?_⟩;refine(a.block k (aN e Y.size) ?_).trans (Y.block k e f);rintro(I|I)
  · exact f I
  have:=l k I;omega
theorem LU{w:H}{base e n:Nat}{v:Z}{xs:List Z}(h:w.ownsRow base e 1 v n xs):(v=.slice none 0 0/\xs=[])\/∃g c,v=.slice (some ⟨g,0,none⟩) n c/\base<=g/\g<w.heap.size/\∀j (i:j<xs.length),w.cell? ⟨g,0+j,none⟩=some xs[j]:=by
  have hl:=h.1;rcases h.2 with⟨rfl,rfl⟩|⟨g,cap,cur,rfl,f,U,hn,hm,hsz,htk⟩
  · exact .inl ⟨rfl,az M0⟩
  refine .inr ⟨g,cap,rfl,f,?_,λj i=>?_⟩
  · rcases cI g w.heap.size with d|a
    · exact d
    rw[cD a]at U;cases U
  have:=h.cells (g:=g) rfl j xs[j] Oc
  rwa [addr_add]at this
theorem VN(p:O):(iz p).length<=3004+p.length:=by
  unfold iz xJ;have I:=Ci (signs p)
  split
  · split
    · split
      · split <;>simp
      simp
    simp
  split
  · simp
  split
  · split
    · rw[dj,ae]
      have:kE.length=4:=rfl;omega
    simp
  simp
theorem DN:∀(k:Nat) (s:ByteArray),∀p∈Lib.splitB nU 0 k s,p.size<=s.size
  |0,s,p,h=>by
    rw[Lib.splitB_zero]at h;simp at h;subst h;exact ag _
  |k+1,s,p,h=>by
    rcases Lib.indexB_cases s nU with hi|⟨i,hi,hle⟩
    · rw[Lib.splitB_miss _ _ _ _ hi]at h
      simp at h;subst h;exact ag _
    rw[Lib.splitB_hit _ _ _ _ i hi]at h;rcases aK.mp h with rfl|h
    · simp[ByteArray.size_extract];omega
    have:=DN k _ p h;simp only[ByteArray.size_extract]at this;omega
theorem D7(t:O):(pieces t).length=Lib.countB (E t) nU+1/\Lib.countB (E t) nU<=t.length:=by
  have Y:=Lib.countB_le nU P8 _ (E t) (ag _);have I:=Lib.splitB_all nU P8 0 _ (E t) rfl;rw[aF]at Y;exact⟨by unfold pieces;rw[ay,I],Y⟩
theorem GC{t p:O}(h:p∈pieces t):p.length<=t.length:=by
  unfold pieces at h;obtain⟨q,a,rfl⟩:=dt.mp h;have:=DN _ _ q a;rw[aF]at this;rw[nD];exact this
theorem zc(t:O)(w:H)(a:Env w)(ht:t.length<=1024000000) :
    Calls prog 245 #[.string (E t),.string ⟨#[46]⟩] w λe c=>e=.returned (.slice (some ⟨w.heap.size,0,none⟩) (pieces t).length (pieces t).length)/\c=w.alloc (.cells (Strs (pieces t)).toArray 9):=by
  obtain⟨_,m,hm⟩:=a;have h:=Any.strings_Split laysSplit Rz (E t) nU m w (by rw[aF];omega) hm P8
  have e:Strs (pieces t)=(Lib.splitB nU 0 (Lib.countB (E t) nU) (E t)).map Value.string:=by
    show(List.map ls _).map (λb=>Value.string (E b))=_;rw[lu];refine jJ λx _=>?_;simp
  rw[(D7 t).1,e];exact h
theorem b7K:Builder.Extra prog laysJoin_ren:={
  sizeBuilder:=Rz,
  liesBuilder:=Rz,
  t5:=underlying5,
  a5:=isAgg5,
  z5:=sizeOf5,
  v5:=zeroValue5,
  infoByte:=Rz,
  cellsByte:=Rz,
  sizeByte:=Rz,
  neB5:=by decide}
theorem Lv(g n c:Nat)(a:List O)(w:H)(h:∀j (hj:j<a.length),w.cell? ⟨g,0+j,none⟩=some (.string (E a[j])))(f:g<w.heap.size)(i:n=a.length)(e:n<=c)(hl:n<=1024000000)(hJ:(iw a).length<=1000000000000) :
    bF prog 247 #[.slice (some ⟨g,0,none⟩) n c,.string ⟨#[46]⟩] w (S (iw a)):=by
  subst i
  have hmap:(a.map E).map (·.data.toList)=a:=by rw[lu];conv=>rhs;rw[<-List.map_id a]
                                                refine jJ λx _=>?_;exact cW x
  have Y:=Any.strings_Join laysJoin b7K g 0 c (a.map E) nU w (λj x X=>by
      rw[eW]at X;cases hp:a[j]? with
      |none=>rw[hp]at X;cases X
      |some p =>
        rw[hp]at X;obtain⟨d,rfl⟩:=bh.1 hp;cases X;exact h j d) f (by rw[ay];omega) (by rw[ay];exact e)
    (by rw[hmap];show(iw a).length<=_;omega)
  rw[hmap,ay]at Y;exact Y

theorem b2J{x:Int}(h:¬((0x41<=x/\x<=0x5a)\/(0xc0<=x/\x<=0xd6)\/(0xd8<=x/\x<=0xde)\/(0x391<=x/\x<=0x3a1)\/(0x3a3<=x/\x<=0x3a9)\/(0x410<=x/\x<=0x42f)\/((0x100<=x/\x<=0x12e)/\x%2=0)\/x=0x130\/(0x400<=x/\x<=0x40f)\/x=0x2024\/x=0x3002\/x=0xff61\/x=0x2100\/x=0x2105\/(0x2460<=x/\x<=0x2468)\/(0xff01<=x/\x<=0xff5e)\/(0x1d7ce<=x/\x<=0x1d7ff))):oE x=[]:=by
 unfold oE
 iterate 11 rw[gc M0]
theorem a4h{x:Int}(h:¬((0x41<=x/\x<=0x5a)\/(0xc0<=x/\x<=0xd6)\/(0xd8<=x/\x<=0xde)\/(0x391<=x/\x<=0x3a1)\/(0x3a3<=x/\x<=0x3a9)\/(0x410<=x/\x<=0x42f)\/((0x100<=x/\x<=0x12e)/\x%2=0)\/x=0x130\/(0x400<=x/\x<=0x40f)\/x=0x2024\/x=0x3002\/x=0xff61\/x=0x2100\/x=0x2105\/(0x2460<=x/\x<=0x2468)\/(0xff01<=x/\x<=0xff5e)\/(0x1d7ce<=x/\x<=0x1d7ff)))
  (a:iB x):gV x=(enc x,1):=by
 have c:FN x=false:=by
  unfold iB at a;unfold FN;exact gh M0
 exact Gt (b2J h) c ((b2a x).mpr a)
theorem a89(c:Int):∀x∈oE c,gV x=(enc x,1)/\x≠c/\Utf8.valid x=true:=by
 intro x X;rcases DU c with⟨h,e⟩|⟨h,I,e⟩|⟨h,I,e⟩|⟨h,e⟩|⟨h,e⟩|⟨h,e⟩|⟨h,e⟩|⟨h,e⟩|⟨h,e⟩|⟨h,e⟩|⟨h,e⟩|⟨h,e⟩|⟨h,e⟩
 all_goals rw[e]at X
 all_goals clear e
 iterate 2
  ·simp only[dS]at X
   subst X;exact⟨a4h M0 (by unfold iB;omega),M0,(sQ _).mpr M0⟩
 ·simp at X
 ·simp only[aK,cV,or_false]at X
  rcases X with rfl|rfl
  all_goals exact⟨a4h M0 (by unfold iB;omega),M0,(sQ _).mpr M0⟩
 iterate 2
  ·simp only[dS]at X
   subst X;exact⟨a4h M0 (by unfold iB;omega),M0,(sQ _).mpr M0⟩
 iterate 2
  ·simp only[aK,cV,or_false]at X
   rcases X with rfl|rfl|rfl
   all_goals exact⟨a4h M0 (by unfold iB;omega),M0,(sQ _).mpr M0⟩
 iterate 4
  ·simp only[dS]at X
   subst X;exact⟨a4h M0 (by unfold iB;omega),M0,(sQ _).mpr M0⟩
 simp at X
theorem b0W{c:Int}(h:Utf8.valid c=true):signs (enc c)=[c]:=by
 have:=a6Y c [];rw[aV,y9,b1v h]at this;exact this
theorem b2b{c:Int}(h:Yc c=true):Utf8.valid c=true:=by
 have:=(b2a c).mp h;unfold iB at this;exact(sQ c).mpr M0
theorem a54(c:Int):((gV c)=(enc c,1)/\oE c=[]/\signs (enc c)=[c])\/(gV c=(fp (oE c),2)/\1<=(oE c).length/\(oE c).length<=3)\/(gV c=([],3))\/(gV c=([],0)):=by
 rcases LJ c with⟨b,h,_,rfl,e⟩|⟨h,I,e⟩|⟨h,I,a,e⟩|⟨h,I,a,e⟩
 ·refine .inr (.inl ⟨e,?_,Wv c⟩)
  cases d:oE c with
  |nil=>exact absurd d h
  |cons x r=>simp
 ·exact .inr (.inr (.inl e))
 ·exact .inl ⟨e,h,b0W (b2b a)⟩
 exact .inr (.inr (.inr e))

def mr:O->List O
 | []=>[[]]
 |x::r=>if x=46 then []::mr r else match mr r with | []=>[[x]]|p::ps=>(x::p)::ps
theorem Oy:mr []=[[]]:=rfl
theorem BU(r:O):mr (46::r)=[]::mr r:=by rw[mr,ge rfl]
theorem uq:∀t,∃p a,mr t=p::a
 | []=>⟨_,_,rfl⟩
 |x::r=>by
  unfold mr
  split
  ·exact⟨_,_,rfl⟩
  obtain⟨p,a,h⟩:=uq r;rw[h];exact⟨_,_,rfl⟩
theorem mt{x:UInt8}{r p:O}{a:List O}(h:x≠46)(c:mr r=p::a):mr (x::r)=(x::p)::a:=by
 rw[mr,gc h,c]
theorem ux(x:UInt8)(r:O):Lib.index (x::r) [46]=if x=46 then 0 else if Lib.index r [46]=-1 then -1 else Lib.index r [46]+1:=by
 rw[Lib.index_one,Lib.index_one,Lib.indexByte];by_cases h:x=46
 ·subst h;simp
 rw[gc h,gc (by simpa using h)];simp only[beq_iff_eq]
theorem nR(x:UInt8)(r:O):Lib.count (x::r) [46]=if x=46 then Lib.count r [46]+1 else Lib.count r [46]:=by
 rw[Lib.count_one,Lib.count_one,List.count_cons];by_cases h:x=46
 ·subst h;simp
 simp[h]
theorem Ji:∀r:O,Lib.count r [46]=0->Lib.index r [46]=-1/\mr r=[r]
 | [],_=>⟨by rw[Lib.index_one];rfl,rfl⟩
 |x::r,h=>by
  rw[nR]at h
  split at h
  ·omega
  next X =>
  obtain⟨Y,I⟩:=Ji r h;exact⟨by rw[ux,gc X,ge Y],mt X I⟩
theorem Jj:∀r:O,Lib.count r [46]≠0->∃i:Nat,Lib.index r [46]=i
 | [],h=>by rw[Lib.count_one]at h;simp at h
 |x::r,h=>by
  rw[nR]at h;rw[ux];by_cases X:x=46
  ·exact⟨0,by rw[ge X];try rfl⟩
  rw[gc X]at h;obtain⟨i,hi⟩:=Jj r h;exact⟨i+1,by rw[gc X,gc M0,hi];rfl⟩
theorem qa{s:O}{k i:Nat}(h:Lib.index s [46]=i):Lib.splitK [46] 0 (k+1) s=s.take i::Lib.splitK [46] 0 k (s.drop (i+1)):=by
 rw[Lib.splitK,gc (by rw[h];simp),h];rfl
theorem wM:∀t:O,Lib.splitK [46] 0 (Lib.count t [46]) t=mr t
 | []=>by
  rw[Lib.count_one];rfl
 |x::r=>by
  have c:=wM r;rw[nR];by_cases X:x=46
  ·subst X
   rw[ge rfl,qa (i:=0) (by rw[ux,ge rfl];rfl),BU];rw[show(46::r).drop (0+1)=r from rfl,c];rfl
  rw[gc X];by_cases a:Lib.count r [46]=0
  ·rw[a]
   exact(mt X (Ji r a).2).symm
  obtain⟨i,hi⟩:=Jj r a;obtain⟨k,d⟩:∃k,Lib.count r [46]=k+1:=⟨Lib.count r [46]-1,M0⟩;rw[d,qa hi]at c;rw[d,qa (i:=i+1) (by rw[ux,gc X,gc M0,hi];rfl)];rw[mt X c.symm];rfl
theorem p6(t:O):pieces t=mr t:=by
 unfold pieces;have h:=Lib.splitB_data nU 0 (Lib.countB (E t) nU) (E t);have a:(E t).data.toList=t:=cW t;have c:nU.data.toList=[46]:=rfl
 have d:Lib.countB (E t) nU=Lib.count t [46]:=by
  show Lib.count (E t).data.toList nU.data.toList=_;rw[a,c]
 rw[a,c,d,wM]at h;rw[d];exact h
theorem a7o:∀a b:O,mr (a++46::b)=mr a++mr b
 | [],b=>by rw[f9,BU,Oy];rfl
 |x::r,b=>by
  have c:=a7o r b;obtain⟨p,ps,h⟩:=uq r;by_cases X:x=46
  ·subst X
   rw[dE,BU,BU,c];rfl
  rw[h]at c;rw[dE,mt X c,mt X h];rfl
theorem vM(p:O)(q:O)(a:List O):iw (p::q::a)=p++46::iw (q::a):=by
 unfold iw;rw[Lib.join_cons,Lib.join_cons];unfold Lib.joinTail;simp
theorem vP:∀t:O,iw (mr t)=t
 | []=>by rw[Oy];unfold iw;rw[Lib.join_one]
 |x::r=>by
  have a:=vP r;obtain⟨p,c,h⟩:=uq r;by_cases X:x=46
  ·subst X
   rw[BU];rw[h]at a⊢;rw[vM,a];rfl
  rw[mt X h];rw[h]at a;cases c with
  |nil =>
   unfold iw at *;rw[Lib.join_one]at *;rw[a]
  |cons q qs =>
   rw[vM]at *;rw[<-a];rfl
theorem a7u:∀(p:O) (c:List O),(∀q∈p::c,46∉q)->mr (iw (p::c))=p::c
 |p,[],h=>by
  unfold iw;rw[Lib.join_one];have hp:=h p Oc;clear h
  induction p with
  |nil=>rfl
  |cons x r a =>
   have X:x≠46:=λh=>hp (by simp[h]);exact mt X (a (λh=>hp (by simp[h])))
 |p,q::e,h=>by
  have a:=a7u q e (λz d=>h z (by simp only[aK]at d⊢;exact .inr d))
  have hp:mr p=[p]:=by
   have hp:=h p Oc;clear h a
   induction p with
   |nil=>rfl
   |cons x r a =>
    have X:x≠46:=λh=>hp (by simp[h]);exact mt X (a (λh=>hp (by simp[h])))
  rw[vM,a7o,hp,a];rfl
def a5Y:List Int->List (List Int)
 | []=>[[]]
 |c::r=>if c=46 then []::a5Y r else match a5Y r with | []=>[[c]]|p::ps=>(c::p)::ps
theorem a6d:∀t,∃p a,a5Y t=p::a
 | []=>⟨_,_,rfl⟩
 |x::r=>by
  unfold a5Y
  split
  ·exact⟨_,_,rfl⟩
  obtain⟨p,a,h⟩:=a6d r;rw[h];exact⟨_,_,rfl⟩
theorem a6h{x:Int}{r p:List Int}{a:List (List Int)}(h:x≠46)(c:a5Y r=p::a):a5Y (x::r)=(x::p)::a:=by
 rw[a5Y,gc h,c]
theorem a7p:∀(e t p:O) (a:List O),46∉e->mr t=p::a->mr (e++t)=(e++p)::a
 | [],t,p,a,_,h=>h
 |x::e,t,p,a,he,h=>by
  have c:=a7p e t p a (λI=>he (by simp[I])) h;exact mt (λI=>he (by simp[I])) c
theorem b0A{c:Int}(d:Utf8.valid c=true)(h:c≠46):(46:UInt8)∉enc c:=by
 have hr:=(sQ c).mp d;intro hm
 have key:∀n:Int,0<=n->n<256->n≠46->(46:UInt8)≠UInt8.ofNat n.toNat:=by
  intro n h0 Y I e;have:=congrArg G e;rw[Xn M0]at this;have e46:G 46=46:=P8;omega
 by_cases Y:c<0x80
 ·rw[ID M0 Y]at hm
  simp only[dS]at hm;exact key c M0 M0 h hm
 by_cases I:c<0x800
 ·rw[IE M0 I]at hm
  simp only[aK,cV,or_false]at hm;rcases hm with hm|hm
  all_goals exact key _ M0 M0 M0 hm
 by_cases a:c<0x10000
 ·rw[yn M0 a M0]at hm
  simp only[aK,cV,or_false]at hm;rcases hm with hm|hm|hm
  all_goals exact key _ M0 M0 M0 hm
 rw[D6 M0 M0]at hm;simp only[aK,cV,or_false]at hm;rcases hm with hm|hm|hm|hm
 all_goals exact key _ M0 M0 M0 hm
theorem a6I:∀l:List Int,(∀c∈l,Utf8.valid c=true)->mr (fp l)=(a5Y l).map fp
 | [],_=>rfl
 |c::r,h=>by
  have d:=a6I r (λx X=>h x (by simp[X]));obtain⟨p,ps,hp⟩:=a6d r;rw[mH];by_cases a:c=46
  ·subst a
   have e:enc 46=[46]:=by decide +kernel
   rw[e,a4p,BU,d,a5Y,ge rfl];rfl
  rw[hp]at d;rw[a7p _ _ _ _ (b0A (h c Oc) a) d,a6h a hp];rfl
theorem a7q:∀(l:List Int),∀p∈a5Y l,∀c∈p,c∈l/\c≠46
 | [],p,h,c,a=>by
  have:p=[]:=by simpa[a5Y]using h
  subst this;simp at a
 |x::r,p,h,c,a=>by
  have e:=a7q r;obtain⟨q,qs,d⟩:=a6d r;by_cases X:x=46
  ·subst X
   rw[a5Y,ge rfl]at h;rcases aK.mp h with rfl|h
   ·simp at a
   have:=e p h c a;exact⟨by simp[this.1],this.2⟩
  rw[a6h X d]at h;rcases aK.mp h with rfl|h
  ·rcases aK.mp a with rfl|a
   ·exact⟨Oc,X⟩
   have:=e q (by rw[d];simp) c a;exact⟨by simp[this.1],this.2⟩
  have:=e p (by rw[d];simp[h]) c a;exact⟨by simp[this.1],this.2⟩

def msF(c:Int):List Int:=if(gV c).2=2 then oE c else if(gV c).2=1 then [c]else []
theorem b3k(c:Int):(gV c).1=fp (msF c):=by
 unfold msF;rcases a54 c with⟨e,h0,Y⟩|⟨e,Y,I⟩|e|e
 all_goals rw[e]
 ·simp[join_one]
 ·simp
 ·simp[fp]
 simp[fp]
theorem b36(c:Int):∀x∈msF c,gV x=(enc x,1)/\Utf8.valid x=true:=by
 intro x X;unfold msF at X;rcases a54 c with⟨e,h0,Y⟩|⟨e,Y,I⟩|e|e
 all_goals rw[e]at X
 ·simp at X
  subst X;refine⟨e,?_⟩;exact DK (enc x) x (by rw[Y];simp)
 ·simp at X
  have:=a89 c x X;exact⟨this.1,this.2.2⟩
 ·simp at X
 simp at X
def msL(l:List Int):List Int:=l.flatMap msF
theorem b3l(l:List Int):∀x∈msL l,gV x=(enc x,1)/\Utf8.valid x=true:=by
 intro x X;obtain⟨c,_,a⟩:=S8.mp X;exact b36 c x a
theorem a6Z:∀l:List Int,fq l=fp (msL l)
 | []=>rfl
 |c::r=>by
  have d:=a6Z r;have e:fq (c::r)=(gV c).1++fq r:=by simp[fq]
  have a:msL (c::r)=msF c++msL r:=by simp[msL]
  rw[e,a,a4o,d,b3k]
theorem a58:∀{m:List Int},(∀x∈m,gV x=(enc x,1))->fq m=fp m/\m.all Tg=true
 | [],_=>⟨rfl,rfl⟩
 |c::r,h=>by
  obtain⟨Y,I⟩:=a58 (m:=r) (λx X=>h x (by simp[X]));have a:=h c Oc;have e:fq (c::r)=(gV c).1++fq r:=by simp[fq]
  rw[e,mH,Y,a];refine⟨rfl,?_⟩;simp only[a4I,I,nk];unfold Tg;rw[a];rfl
def Zo(l:List Int):Option O:=if l.all Tg=true then(if(mr (fq l)).all Q7=true then some (iw ((mr (fq l)).map iz))else none)else none
theorem KI(b:O):nw b=Zo (signs b):=by unfold nw Zo;rw[p6]

theorem b1U{c:Int}(h:Q8 c=true):gV c=(enc c,1)/\Utf8.valid c=true/\c≠46:=by
 have I:=of_decide_eq_true h;rcases a54 c with⟨e,h0,Y⟩|⟨e,_⟩|e|e
 ·exact⟨e,DK (enc c) c (by rw[Y];simp),I.2⟩
 iterate 3
  ·rw[e]at I;simp at I
theorem b2x{l:List Int}(h:qZ l=true):(∀c∈l,Q8 c=true)/\∃c∈l,127<c:=by
 unfold qZ at h;rw[f8,f8]at h;refine⟨dl.mp h.1.2,?_⟩;obtain⟨c,a,d⟩:=m8.mp h.2;exact⟨c,a,of_decide_eq_true d⟩
theorem b18{c:Int}(h:Utf8.valid c=true):sg c=true:=by
 have:=(sQ c).mp h;exact sG.mpr M0
theorem a6S{c:Int}(h:gV c=(enc c,1)):¬(65<=c/\c<=90):=by
 intro hc;have:oE c=[c+0x20]:=by unfold oE;rw[ge M0]
 have e:=VA (c:=c) (by rw[this];simp);rw[h]at e;have:=congrArg Prod.snd e;simp at this
theorem b0N{l:List Int}(d:∀c∈l,Utf8.valid c=true)(h:b69 (fp l)=true):∀c∈l,c<0x80:=by
 induction l with
 |nil=>simp
 |cons x r e =>
  rw[mH,b2z,f8]at h;intro c a;rcases aK.mp a with rfl|a
  ·by_cases Y:c<0x80
   ·exact Y
   have:=(b1h (d c Oc) Y).2;rw[this]at h;exact absurd h.1 Oc
  exact e (λx X=>d x (by simp[X])) h.2 c a
theorem a4A{l:List Int}(a:∀c∈l,Utf8.valid c=true):signs (fp l)=l:=by
 have:=a5D l [];rw[aV,y9,aV,b2A a]at this;exact this
theorem b3a{l:List Int}(h:qZ l=true)(i:l.length<=255):encR l=(Fy l,true)/\(∀c∈l,sg c=true)/\1<=(Fy l).length:=by
 obtain⟨Y,c,g,hf⟩:=b2x h;have d:∀c∈l,sg c=true:=λx X=>b18 (b1U (Y x X)).2.1;refine⟨?_,d,?_⟩
 ·unfold encR
  rw[gc];rintro(h|h)
  ·omega
  exact h (dl.mpr d)
 obtain⟨W,e,_,_,f⟩:=vg d i;rw[e,ae];by_cases hw:W.length=0
 ·exfalso
  have U:=f hw;have a:(lD l).length=(l.filter (λc=>decide (c<128))).length:=by unfold lD;rw[ay]
  rw[a]at U;have:=a6E.mp U c g;have:=of_decide_eq_true this;omega
 omega
def a94(p:O):Prop:=(∀y∈p,G y<0x80/\¬(65<=G y/\G y<=90)/\y≠46)/\xJ p=some p
theorem b2F(t:O):Lib.hasPrefix (kE++t) kE=true:=by
 unfold Lib.hasPrefix;exact ej.mpr ⟨t,rfl⟩
theorem b1T{p:O}(h:∀y∈p,G y<0x80):b69 p=true:=dl.mpr λy hy=>gr (h y hy)
theorem b1X{q:List Int}(t:∀c∈q,gV c=(enc c,1)/\Utf8.valid c=true/\c≠46)(n:Q7 (fp q)=true):a94 (iz (fp q)):=by
 have v:∀c∈q,Utf8.valid c=true:=λc g=>(t c g).2.1;have o:=a4A v
 obtain⟨y,hy⟩:∃y,xJ (fp q)=some y:=by
  unfold Q7 at n;exact a6t.mp n
 have B:iz (fp q)=y:=by unfold iz;rw[hy];rfl
 rw[B];cases j:b69 (fp q)
 ·
  have hp:Lib.hasPrefix (fp q) kE=false:=by
   cases hp:Lib.hasPrefix (fp q) kE
   ·rfl
   rw[b0t hp j]at hy;cases hy
  have d:qZ (signs (fp q))=true:=by
   cases d:qZ (signs (fp q))
   ·rw[b0x hp j d]at hy;cases hy
   rfl
  rw[b0y hp j d,o]at hy;rw[o]at d
  have hlen:q.length<=255/\encR q=(Fy q,true):=by
   unfold encR at hy⊢
   split at hy
   ·simp at hy
   next h =>
   rw[gc h];exact⟨M0,rfl⟩
  rw[hlen.2]at hy;simp only[if_true]at hy;have p:y=kE++Fy q:=(bj hy).symm;obtain⟨_,u,_⟩:=b3a d hlen.1;obtain⟨W,e,w,_⟩:=vg u hlen.1
  have hbytes:∀z∈y,G z<0x80/\¬(65<=G z/\G z<=90)/\z≠46:=by
   intro z a;rw[p,e]at a;have f:G 46=46:=P8;rcases bO.mp a with a|a
   ·have:z=120\/z=110\/z=45:=by
     have:z∈([120,110,45,45]:O):=a;simp only[aK,cV,or_false]at this;rcases this with h|h|h|h <;>simp[h]
    rcases this with rfl|rfl|rfl <;>decide
   rcases bO.mp a with a|a
   ·rcases bO.mp a with a|a
    ·unfold lD at a
     obtain⟨c,g,rfl⟩:=dt.mp a;obtain⟨r,s⟩:=a3J.mp g;have hc3:=of_decide_eq_true s;have i:=t c r;have C:=(sQ c).mp i.2.1;have x:=a6S i.1;have m:G (UInt8.ofNat c.toNat)=c:=Xn M0;refine⟨M0,M0,λh=>?_⟩;rw[h,f]at m;exact i.2.2 m.symm
    unfold hyp at a
    split at a
    ·simp at a
    simp only[dS]at a;subst a;decide
   have:=w z a;unfold Gg at this;refine⟨M0,M0,λh=>?_⟩;rw[h,f]at this;omega
  refine⟨hbytes,?_⟩;have hlow:b69 y=true:=b1T λz a=>(hbytes z a).1;rw[p]at hlow⊢;have hd:(kE++Fy q).drop 4=Fy q:=rfl;rw[b0v (b2F _) hlow (by rw[hd];exact a8A u hlen.1),d];rfl
 
 have hyp:y=fp q:=by
  cases hp:Lib.hasPrefix (fp q) kE
  ·rw[b0w hp j]at hy;exact(bj hy).symm
  cases hd:Fl ((fp q).drop 4)with
  |none=>rw[b0u hp j hd]at hy;cases hy
  |some l =>
   rw[b0v hp j hd]at hy
   split at hy
   ·exact(bj hy).symm
   cases hy
 subst hyp;refine⟨?_,hy⟩;have k:=b0N v j;intro z a;obtain⟨c,g,a⟩:=S8.mp a;have i:=t c g;have C:=(sQ c).mp i.2.1;have x:=a6S i.1;rw[ID M0 (k c g)]at a;simp only[dS]at a;have m:G z=c:=by rw[a];exact Xn (by have:=k c g;omega)
 have f:G 46=46:=P8;refine⟨by have:=k c g;omega,M0,λh=>?_⟩;rw[h,f]at m;exact i.2.2 m.symm
theorem a5W{t:O}(h:∀y∈t,G y<0x80):t=fp (t.map G):=by
 induction t with
 |nil=>rfl
 |cons x r a =>
  rw[dh,mH,a2F (h x Oc),<-a (λy hy=>h y (by simp[hy]))];rfl
theorem a9V{c:Int}(h0:0<=c)(Y:c<0x80)(I:¬(65<=c/\c<=90)):gV c=(enc c,1):=a4h M0 (by unfold iB;omega)
theorem a7z{b t:O}(h:nw b=some t):(∀y∈t,G y<0x80/\¬(65<=G y/\G y<=90))/\nw t=some t:=by
 rw[KI]at h;unfold Zo at h
 split at h
 ·split at h
  ·next f =>
   have i:=(bj h).symm;rw[a6Z]at i f;have e:=b3l (signs b);generalize msL (signs b)=m at *;have w:∀c∈m,Utf8.valid c=true:=λc d=>(e c d).2;rw[a6I m w]at i f
   have a:∀o∈((a5Y m).map fp).map iz,a94 o:=by
    intro o v;obtain⟨p,hp,rfl⟩:=dt.mp v;obtain⟨q,g,rfl⟩:=dt.mp hp;refine b1X (λc d=>?_) (dl.mp f _ hp);have hm:=a7q m q g c d;exact⟨(e c hm.1).1,(e c hm.1).2,hm.2⟩
   obtain⟨o,os,l⟩:∃o os,((a5Y m).map fp).map iz=o::os:=by
    obtain⟨p,j,hp⟩:=a6d m;rw[hp];exact⟨_,_,rfl⟩
   rw[l]at i a;have hcut:=a7u o os (λq g I=>((a q g).1 46 I).2.2 rfl);rw[<-i]at hcut
   have hbytes:∀y∈t,G y<0x80/\¬(65<=G y/\G y<=90):=by
    have key:∀(p:O) (j:List O),(∀q∈p::j,a94 q)->∀y∈iw (p::j),G y<0x80/\¬(65<=G y/\G y<=90):=by
     intro p j
     induction j generalizing p with
     |nil =>
      intro k y hy;unfold iw at hy;rw[Lib.join_one]at hy;have:=(k p Oc).1 y hy;exact⟨this.1,this.2.1⟩
     |cons q qs x =>
      intro k y hy;rw[vM]at hy;rcases bO.mp hy with hy|hy
      ·have:=(k p Oc).1 y hy
       exact⟨this.1,this.2.1⟩
      rcases aK.mp hy with rfl|hy
      ·decide
      exact x q (λz s=>k z (by simp only[aK]at s⊢;exact .inr s)) y hy
    rw[i];exact key o os a
   refine⟨hbytes,?_⟩;have r:=a5W (λy hy=>(hbytes y hy).1)
   have hmap:∀c∈t.map G,gV c=(enc c,1)/\Utf8.valid c=true:=by
    intro c d;obtain⟨y,hy,rfl⟩:=dt.mp d;have Y:=hbytes y hy;have u:=jL y;exact⟨a9V u.1 Y.1 Y.2,(sQ _).mpr M0⟩
   have n:signs t=t.map G:=by
    conv=>lhs;rw[r]
    exact a4A (λc d=>(hmap c d).2)
   obtain⟨t1,t2⟩:=a58 (m:=t.map G) (λc d=>(hmap c d).1);rw[<-r]at t1;rw[KI,n];unfold Zo;rw[ge t2,t1,hcut]
   have hout:(o::os).map iz=o::os:=by
    conv=>rhs;rw[<-List.map_id (o::os)]
    refine jJ λq g=>?_;unfold iz;rw[(a q g).2];rfl
   rw[ge,hout,<-i];exact dl.mpr λq g=>by unfold Q7;rw[(a q g).2];rfl
  cases h
 cases h

def BD(w:H)(o:Option O):Ending->H->Prop:=λe w'=>e=.returned (.tuple #[S (o.getD []),.bool o.isSome])/\r7 w w'
theorem BD.none{w a:H}{o:Option O}(h:o=none)(U:r7 w a):BD w o (.returned (.tuple #[S [],.bool false])) a:=by subst h;exact⟨rfl,U⟩
theorem BD.some{w a:H}{o:Option O}{x:O}{s:ByteArray}(h:o=some x)(c:s=E x)(U:r7 w a):BD w o (.returned (.tuple #[.string s,.bool true])) a:=by subst h;subst c;exact⟨rfl,U⟩
theorem yK:∀a:List O,Lib.lens (a.map iz)<=3004*a.length+Lib.lens a
 | []=>by simp[Lib.lens]
 |x::r=>by
  have ih:=yK r;have h:=VN x;have c:Lib.lens ((x::r).map iz)=(iz x).length+Lib.lens (r.map iz):=by simp[Lib.lens]
  have d:Lib.lens (x::r)=x.length+Lib.lens r:=by simp[Lib.lens]
  rw[c,d,cz];omega
theorem vN(x:O)(r:List O):(iw (x::r)).length=Lib.lens (x::r)+r.length:=by
 unfold iw;have a:([46]:List UInt8).length=1:=rfl;have e:Lib.lens (x::r)=x.length+Lib.lens r:=by simp[Lib.lens]
 rw[Lib.join_cons,ae,Lib.joinTail_length,a,e];omega
theorem Ar(t:O):(iw ((pieces t).map iz)).length<=3005*(t.length+1):=by
 rw[p6];obtain⟨p,c,h⟩:=uq t;have a:=vP t;rw[h]at a⊢;have Y:=congrArg List.length a;rw[vN]at Y;have I:=yK (p::c);rw[dh]at I⊢;rw[vN,ay];rw[cz]at I;omega
theorem Dk(w:H)(base e:Nat)(a:List O)(U:base<=w.heap.size)(hl:a.length<=1024000000) :
  (w.alloc (.cells (Strs a).toArray e)).ownsRow base e 1 (.slice (some ⟨w.heap.size,0,none⟩) a.length a.length) a.length (Strs a) :=
 ⟨Oc,.inr ⟨w.heap.size,a.length,_,rfl,U,jp w _,ag _,by unfold maxLen;omega,Oc,aP Oc⟩⟩
theorem a0s{α:Type}{f:α->α}{a:List α}{k:Nat}(h:k<a.length):((a.take k).map f++a.drop k)[k]?= some a[k]:=by
 have c:((a.take k).map f).length=k:=by rw[ay,aD];omega
 rw[dB M0,c,jy,fz,dH];exact aG h
theorem VE{α:Type}{f:α->α}{a:List α}{k:Nat}(h:k<a.length){y:α}(hy:f a[k]=y):((a.take k).map f++a.drop k).set k y=(a.take (k+1)).map f++a.drop (k+1):=by
 have c:((a.take k).map f).length=k:=by rw[ay,aD];omega
 rw[aH h,eY,aC h,b3Y _ _ M0,c,jy,bB,<-hy];rfl
theorem Fp(b:O)(w:H)(U:b.length<=307200000)(ht:(fq (signs b)).length<=102400000)(hE:Env w):Calls prog 237 #[.string (E b)] w λe w'=>BD w (nw b) e w':=by
 have R:=λW (h:r7 w W)=>St b W U (hE.below h).1
 have Q:∀x∈signs b,(gV x).2=0->nw b=none:=by
  intro x X h;obtain⟨k,hk,rfl⟩:=cC X;exact a3z hk h
 have q:=λ(h:(signs b).all Tg=true) (p:O) (hp:p∈pieces (fq (signs b))) (I:xJ p=none)=>a3A h hp I;have r:=λ(h:(signs b).all Tg=true) (I:(pieces (fq (signs b))).all Q7=true)=>a3B h I;generalize nw b=O' at Q q r⊢;have hsl:=lR _ b (ag _);generalize signs b=l at R hsl ht Q q r;generalize E b=s at R⊢;obtain⟨L,hL⟩:=V (l.length);have hLm:L<=307200000:=M0;clear hsl U;have ma:=F R;clear R;have HD1:=F Q;clear Q;have HD2:=F q;clear q;have HD3:=F r;clear r;have HL:=F hL;clear hL;have HT:=F ht;clear ht;have SW:=F hE;clear hE;go_enter func237,ntmps237;go_wp2_with fail;refine(ma.o _ ((gT _ _).alloc (ag _) _)).m ?_;rintro e w2⟨v2,rfl,ho2,hb2⟩;have a32:=(sR.fresh w).below hb2;have HB2:=F<|((gT _ w).alloc (ag _) _).trans (hb2.m Oc);clear hb2
 have hat:∀k (hk:k<l.length),∃gs c,v2=.slice (some ⟨gs,0,none⟩) L c/\w.heap.size<gs/\gs<w2.heap.size/\w2.cell? ⟨gs,0+k,none⟩=some (.int .i64 l[k]):=by
  intro k hk;rcases LU ho2 with⟨_,h0⟩|⟨gs,c,Y,I,h3,h4⟩
  ·have:(d8 l).length=0:=by rw[h0];rfl
   rw[ay]at this;omega
  rw[show(d8 l).length=L by rw[ay,HL.o]]at Y;refine⟨gs,c,Y,by simp at I;omega,h3,?_⟩;have:=h4 k (by rw[ay];exact hk)
  simpa using this
 obtain⟨av,cv,hv⟩:=cQ (Sl.g9 ho2);rw[show(d8 l).length=L by rw[ay,HL.o]]at hv;subst hv;clear ho2;have HAT:=F hat;clear hat;have lZ:=F a32;clear a32;have hz2:w.heap.size<w2.heap.size:=lZ.o.lt;go_wp2_with fail
 go_loopw [17] (λiv wr=>∃(k:Nat) (g:Option Nat),k<=L/\iv=.int .i64 k/\(l.take k).all Tg=true/\sR w.heap.size g (fq (l.take k)) wr/\(∀j,g=some j->w2.heap.size<=j)/\Fr (λj=>j=w.heap.size) w2 wr) (λi _=>L-(intOf i).toNat)
 exact⟨0,none,M0,Oc,Oc,by simpa[fq]using lZ.o,Oc,Fr.of_below (gT _ _)⟩
 obtain⟨k,g,hk,rfl,hall,n,hg,hfr⟩:=hrel;have hbw:r7 w wr:=HB2.o.trans (hfr.below M0 (λj J=>M0));have HA:=F hall;clear hall;have pN:=F n;clear n;have HG:=F hg;clear hg;have HF:=F hfr;clear hfr;have Hp:=F hbw;clear hbw;by_cases hlt:k<L
 ·have X:k<l.length:=by have:=HL.o;omega
  obtain⟨gs,c',hav,b4y,a9w,hc2⟩:=HAT.o k X;obtain⟨rfl,rfl⟩:av=some ⟨gs,0,none⟩/\cv=c':=by injection hav with e1 e2 e3;exact⟨e1,e3⟩
  have hcell:wr.cell? ⟨gs,0+k,none⟩=some (.int .i64 l[k]):=(World.cell?_of_block (w:=w2) (a:=⟨gs,0+k,none⟩) (HF.o.block gs a9w M0)).trans hc2;rw[bM]at hcell;clear hav hc2;have hts:=MA X;have u:=λh=>xW (f:=Tg) X HA.o h;have PJ:=HD1.o _ (be X);have v:=Jn l[k];have htl:=rx (l.take k);rw[aD]at htl;generalize l[k]=x at hcell hts u PJ v;have hma:=λW=>Jm x W;have hok2:(gV x).2≠0->(l.take (k+1)).all Tg=true:=λh=>u (gr h);clear u;obtain⟨K,hK,B,hB⟩:=ac ((gV x).2) ((gV x).1);rw[<-hB]at hts v;rw[<-hK]at PJ hok2;rw[<-hK,<-hB]at hma;clear hK hB;have V7:=F hma;clear hma;have HTS:=F hts;clear hts;have TB:(fq (l.take k)).length+B.length<=1099511627776:=M0;have a7H:=F TB;clear TB htl v;by_cases C:K=0
  ·have hf:=PJ C
   have HO:=F hf;clear hf PJ hok2;subst C;go_wp2_with fail;refine(V7.o _).k λw3 D=>?_;have z:=F<|Hp.o.trans (D.o.m Hp.o.size);clear D;go_wp2_with fail
   go_ret2
   exact BD.none HO.o z.o
  have q0:(K==0)=false:=by simp[C]
  have CH:=hok2 C;have HA2:=F CH;clear CH hok2 PJ C;go_wp2_with fail;refine(V7.o _).k λw3 z=>?_;go_wp2_with fail;refine(py B (pN.o.below z.o) a7H.o).k λw4 xo=>?_;go_wp2_with fail;obtain⟨g',a1,a2,a3⟩:=xo.o;have WX:=F<|UQ HF.o z.o a3 HG.o
  have HG':∀j,g'=some j->w2.heap.size<=j:=by
   intro j J;rcases a2 with h|⟨j',h,h'⟩
   ·exact HG.o j (h▸J)
   rw[h]at J;injection J with J
   have:=HF.o.size;have:=z.o.size;omega
  have HG2:=F HG';clear HG' a2 a3;have HA1:=F a1;clear a1;go_roundw
  exact⟨k+1,g',M0,Oc,HA2.o,by rw[HTS.o];exact HA1.o,HG2.o,WX.o⟩
  exact aa
 obtain rfl:L=k:=M0;have hall:=HA.o;have n:=pN.o;rw[aP (by have:=HL.o;omega)]at hall n;have q:=HD2.o hall;have r:=HD3.o hall;have ht:=HT.o;generalize fq l=t at q r ht n;clear hall;have hstr:=kX w.heap.size n (ag _) (λj J=>by have:=HG.o j J;omega);have a2y:=F hstr;clear hstr n;have hpn:=D7 t;have hpl:=λp (hp:p∈pieces t)=>GC hp;have T:=λW (h:Env W)=>zc t W h M0;obtain⟨d,hps⟩:=V (pieces t);have hjo:(iw (d.map iz)).length<=1000000000000:=by rw[hps];have:=Ar t;omega
 have HJO:=F hjo;clear hjo;rw[<-hps]at q r hpn hpl T;clear hps;obtain⟨N,hN⟩:=V (d.length);rw[<-hN]at hpn T;have oP:N<=102400001:=M0;clear hpn;have HN:=F hN;clear hN;have ji:=F T;clear T;have X1:=F q;clear q;have Bv:=F r;clear r;have a4v:∀p∈d,p.length<=102400000:=λp hp=>by have:=hpl p hp;omega
 have HPL:=F a4v;clear a4v hpl ht;go_wp2_with fail;refine(a2y.o).k λw5 hb5=>?_;have gD:=F<|Hp.o.trans hb5.o;clear hb5;go_wp2_with fail;refine(ji.o _ (SW.o.below gD.o)).m ?_;rintro e w6⟨rfl,P3⟩
 have hown:w6.ownsRow w.heap.size 9 1 (.slice (some ⟨w5.heap.size,0,none⟩) N N) N (Strs d):=by
  rw[P3,HN.o];exact Dk w5 w.heap.size _ d gD.o.size (by have:=HN.o;omega)
 have hb6:r7 w w6:=by rw[P3];exact gD.o.alloc gD.o.size _
 have hgS:w.heap.size<=w5.heap.size:=gD.o.size;clear P3;generalize w5.heap.size=P at hown hgS⊢;have HOW:=F hown;clear hown;have j8:=F hb6;clear hb6;clear Hp gD HF HG pN HA a2y;go_wp2_with fail
 go_loopw [35] (λiv wr=>∃(k:Nat),k<=N/\iv=.int .i64 k/\(d.take k).all Q7=true/\wr.ownsRow w.heap.size 9 1 (.slice (some ⟨P,0,none⟩) N N) N (Strs ((d.take k).map iz++d.drop k))/\r7 w wr) (λi _=>N-(intOf i).toNat)
 exact⟨0,M0,Oc,Oc,by simpa using HOW.o,j8.o⟩
 obtain⟨k,hk,rfl,hall,hown,hbl⟩:=hrel;have HA:=F hall;clear hall;have HO:=F hown;clear hown;have HB:=F hbl;clear hbl;by_cases hlt2:k<N
 ·have X:k<d.length:=by have:=HN.o;omega
  have hcell:wr.cell? ⟨P,k,none⟩=some (.string (E d[k])):=by
   have:=HO.o.cells (g:=P) rfl k (.string (E d[k])) (by rw[eW,a0s X];rfl)
   rwa [addr_add,bM]at this
  have hmem:d[k]∈d:=be X;have hwt:=Eg d[k] wr (HPL.o _ hmem) (SW.o.below HB.o).1;have n:=X1.o d[k] hmem
  have u:Q7 d[k]=true->(d.take (k+1)).all Q7=true:=λh=>by
   rw[aH X,Xe,HA.o];simp[h]
  have hset:=λy h=>VE (f:=iz) X (y:=y) h;generalize d[k]=p at hcell hwt n u hset;clear hmem X;have M:=F hwt;clear hwt;have HBAD:=F n;clear n;have Kd:=F u;clear u;have YD:=F hset;clear hset;cases hw:xJ p with
  |none =>
   have px:=F<|HBAD.o hw;rw[hw]at M;clear hw;go_wp2_with fail;refine(M.o).m ?_;rintro e w7⟨x,rfl,_,Em⟩;have IF:=F<|HB.o.trans (Em.m HB.o.size);clear Em;go_wp2_with fail
   go_ret2
   exact BD.none px.o IF.o
  |some y =>
   have hy1:iz p=y:=by unfold iz;rw[hw];rfl
   have hy2:Q7 p=true:=by unfold Q7;rw[hw];rfl
   have HY1:=F<|YD.o y hy1;have HY2:=F<|Kd.o hy2;rw[hw]at M;clear hw hy1 hy2;go_wp2_with fail;refine(M.o).m ?_;rintro e w7⟨x,rfl,X,Em⟩;obtain rfl:x=y:=X y rfl;clear X;have ho7:=own_below HO.o Em;have IF:=F<|HB.o.trans (Em.m HB.o.size)
   have a9r:w7.cell? ⟨P,k,none⟩=some (.string (E p)):=by
    rw[Em.cell (p:=⟨P,k,none⟩) (block_lt_of_cell hcell)];exact hcell
   have b4w:=ho7.frozenAt k;have hst:=ho7.stored k (.string (E x))
   have XO:(Strs ((d.take k).map iz++d.drop k)).set k (.string (E x))=Strs ((d.take (k+1)).map iz++d.drop (k+1)):=by
    rw[<-HY1.o];exact(List.map_set (f:=λb=>Value.string (E b))).symm
   have HST:=F<|XO▸hst.1;clear hst XO ho7 Em;go_wp2_with fail;go_roundw
   exact⟨k+1,M0,Oc,HY2.o,HST.o,IF.o.setCell hgS _⟩
   exact aa
 obtain rfl:N=k:=M0;have hall:=HA.o;have hown:=HO.o;rw[aP (by have:=HN.o;omega)]at hall hown;rw[dG (by have:=HN.o;omega),aV]at hown;have hno:=Bv.o hall;have px:=F hno;clear hno hall;have v:(d.map iz).length=N:=by rw[ay,HN.o]
 have hcs:∀j (J:j<(d.map iz).length),wr.cell? ⟨P,0+j,none⟩=some (.string (E (d.map iz)[j])):=by
  intro j J;have:=hown.cells (g:=P) rfl j (.string (E (d.map iz)[j])) (by rw[eW,aG J];rfl)
  rwa [addr_add]at this
 have a4f:=(hown.lt P rfl).2;have hjn:=Lv P N N (d.map iz) wr hcs a4f v.symm (ag _) M0 HJO.o;have SY:=F hjn;clear hjn hcs v hown;go_wp2_with fail;refine(SY.o).k λw8 Eo=>?_;have HB8:=F<|HB.o.trans (Eo.o.m HB.o.size);clear Eo;go_wp2_with fail
 go_ret2
 exact BD.some px.o rfl HB8.o

def fin(out:O)(R:List O):Option O:=if R.all Q7=true then some (out++iw (R.map iz))else none

theorem KO(l:List Int):(encR l).1.length<=1+8*l.length:=by
 unfold encR
 split
 ·simp
 next h =>
 have Y:l.all sg=true:=by
  by_cases I:l.all sg=true
  ·exact I
  exact absurd (.inr I) h
 obtain⟨W,e,_,hw,_⟩:=vg (dl.mp Y) M0;have U:=uR l;have hh:(hyp (lD l)).length<=1:=by unfold hyp;split <;>simp
 simp only;rw[e,ae,ae];omega
theorem Rg(p:O):(iz p).length<=5+8*p.length:=by
 have I:=KO (signs p);have h3:=lR _ p (ag _);unfold iz xJ
 split
 ·split
  ·split
   ·split
    ·rw[dj];omega
    simp
   simp
  simp
 split
 ·rw[dj];omega
 split
 ·split
  ·rw[dj,ae]
   have:kE.length=4:=rfl;omega
  simp
 simp
theorem qY(x:O)(r:List O):(iw (x::r)).length=Lib.lens (x::r)+r.length:=by
 unfold iw;have a:([46]:List UInt8).length=1:=rfl;have e:Lib.lens (x::r)=x.length+Lib.lens r:=by simp[Lib.lens]
 rw[Lib.join_cons,ae,Lib.joinTail_length,a,e];omega
theorem De:∀a:List O,Lib.lens (a.map iz)<=5*a.length+8*Lib.lens a
 | []=>by simp[Lib.lens]
 |p::a=>by
  have ih:=De a;have hp:=Rg p;have c:Lib.lens ((p::a).map iz)=(iz p).length+Lib.lens (a.map iz):=by simp[Lib.lens]
  have d:Lib.lens (p::a)=p.length+Lib.lens a:=by simp[Lib.lens]
  rw[c,d,cz];omega
theorem Cg{b t:O}(h:nw b=some t):t.length<=8*(fq (signs b)).length+8:=by
 rw[KI]at h;unfold Zo at h
 split at h
 ·split at h
  ·have e:=bj h
   obtain⟨p,f,hp⟩:=uq (fq (signs b));have c:=vP (fq (signs b));have d:=De (p::f);have a:=congrArg List.length c;rw[hp,qY]at a;rw[<-e,hp,dh,qY,ay];rw[dh,cz]at d;omega
  cases h
 cases h

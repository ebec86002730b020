/- Joined texts. -/
import Derived.Test.YtajblocgpkpmeaaGreatDoorSGReg
import Derived.Test.YtajblocgpkpmeaaGreatDoorSGPctA
set_option maxHeartbeats 40000000
namespace Go.Proofs.YtajblocgpkpmeaaGreatDoor
open Tryz
open Go.RowKit
set_option maxRecDepth 10000
variable{w' wb:H}
structure Hb (wb:H) (l:O) (w:H):Prop where
 bld:∃ g,sR wb.heap.size g l w/\∀ k,g=some k->wb.heap.size<=k
 bL:r7 wb w
theorem Hb.fresh(wb:H):Hb wb [] (wb.alloc (.cells #[.pointer none,.slice none 0 0] 82)) :=
 ⟨⟨none,sR.fresh wb,λ_ h=>by cases h⟩,(Below.refl _ _).alloc (ag _) _⟩
theorem Hb.step{w:H}{l:O}(h:Hb wb l w)(U:r7 w w'):Hb wb l w':=by
 obtain⟨g,Y,I⟩:=h.bld;exact⟨⟨g,Y.below U,I⟩,h.bL.trans (U.m h.bL.size)⟩
theorem Hb.Ax{w:H}{l':O}{g:Option Nat}(c:∀ k,g=some k->wb.heap.size<=k)(U:r7 wb w)(h:EM w wb.heap.size g l' w'):Hb wb l' w':=by
 obtain⟨e,d,a2,a3⟩:=h;refine⟨⟨e,d,λk a=>?_⟩,U.trans (a3.below U.size ?_)⟩
 ·rcases a2 with h|⟨k',h,h'⟩
  ·exact c k (h▸a)
  rw[h]at a;injection a with a;have:=U.size;omega
 rintro k (h|h)
 ·omega
 exact c k h
theorem Hb.ws{w:H}{l:O}(m:O)(h:Hb wb l w)(hlen:l.length+m.length<=1099511627776) :
  Calls prog 37 #[.pointer (some ⟨wb.heap.size,0,none⟩),S m] w λe w'=>e=.returned (.tuple #[.int .i64 m.length,.nilIface])/\Hb wb (l++m) w':=by
 obtain⟨g,Y,I⟩:=h.bld;refine(py m Y hlen).m ?_;rintro e w' ⟨rfl,a⟩;exact⟨rfl,Hb.Ax I h.bL a⟩
theorem Hb.Ti{w:H}{l:O}(m:UInt8)(n:Int)(a:n=G m)(h:Hb wb l w)(hlen:l.length+1<=1099511627776) :
  Calls prog 38 #[.pointer (some ⟨wb.heap.size,0,none⟩),.int .u8 n] w λe w'=>e=.returned .nilIface/\Hb wb (l++[m]) w':=by
 subst a;obtain⟨g,Y,I⟩:=h.bld;refine(pM m Y hlen).m ?_;rintro e w' ⟨rfl,c⟩;exact⟨rfl,Hb.Ax I h.bL c⟩
theorem Hb.str{w:H}{l:O}(h:Hb wb l w) :
  Calls prog 43 #[.pointer (some ⟨wb.heap.size,0,none⟩)] w λe w'=>e=.returned (S l)/\r7 wb w':=by
 obtain⟨g,Y,I⟩:=h.bld;refine(kX wb.heap.size Y (ag _) I).m ?_;rintro e w' ⟨rfl,a⟩;exact⟨rfl,h.bL.trans a⟩
theorem boxed{P:Program}{ops:Array Oper}{rest:List Oper}{o:Oper}{a:Act}{w:H}{Q:Exit->Act->H->Prop}(d:o.guard=none)(t:TypeId)(x:Operand)(e:o.op=.box t x)
  (cs:Array Z) (X:a.eval x=.agg cs)
  (h:∀ c w',w.heap.size<=c->c<w'.heap.size->w'.heap[c]? = some (.cells cs t (0,0))->(∀i,w'.cell? ⟨c,i,none⟩=cs[i]?)->r7 w w'->wpList P ops Q rest (a.put o.dst (.pointer (some ⟨c,0,none⟩))) w'):wpList P ops Q (o::rest) a w:=by
 refine Go.Great.wpList_boxTo d t x e _ rfl _ rfl cs (by rw[X];rfl) ?_;refine h w.heap.size _ (ag _) Oc (heap_alloc_new w _) (λi=>?_) ((Below.refl _ _).alloc (ag _) _);rw[World.cell?_alloc_mark]
theorem gO{B:Nat}{w:H}{a:Option Addr}{n c:Nat}{l:List O}(h:Sl B w (.slice a n c) (l.map S))(k:Nat)(d:k<l.length) :
  ∃b o,a=some ⟨b,o,none⟩/\b<B/\w.cell? ⟨b,o+k,none⟩=some (S l[k]):=by
 obtain⟨c',_,_,h⟩:=h;rcases h with⟨f,_⟩|⟨b,o,U,g,e⟩
 ·have:l=[]:=by simpa using f
  subst this;simp at d
 injection g with Y I h3
 refine⟨b,o,Y,U,?_⟩;have:=e k (by simpa using d)
 simpa using this
def uf(u:Url):O:=if u.usr=[]/\u.ib=[]then []else if u.ib=[]then u.usr++[64]else u.usr++[58]++u.ib++[64]
def cH:List O->O
 | []=>[]
 |p::r=>[47]++p++cH r
theorem su:∀ (l m:List O),cH (l++m)=cH l++cH m
 | [],m=>rfl
 |p::l,m=>by simp[cH,su l m]
theorem jc(l:List O)(p:O):cH (l++[p])=cH l++[47]++p:=by simp[su,cH]
def nh(u:Url):O:=if u.opq then u.flat else cH u.path
structure EN (u:Url):Prop where
 path:u.path.length<=50
 tot:(u.path.map List.length).sum<=2000
 aJ:u.aJ.length<=100
 usr:u.usr.length<=500
 ib:u.ib.length<=500
 flat:u.flat.length<=1000
 q:u.q.length<=1000
 f:u.f.length<=1000
 name:u.host.name.length<=500
theorem sw:∀ l:List O,(cH l).length=l.length+(l.map List.length).sum
 | []=>rfl
 |p::r=>by simp[cH,sw r];omega
theorem Gs(a b:ByteArray):ls (a++b)=ls a++ls b:=by
 have h:=mm (ls a) (ls b);rw[kt,kt]at h;rw[h,cW]
theorem Jl(a:Array UInt8):ls ⟨a⟩=a.toList:=rfl

def iW(c:Int):Bool:=decide (c=9\/c=10\/c=12\/c=13\/c=32)
theorem fh(c:Int)(w:H):bP prog 46 #[.int .u8 c] w (.bool (iW c)):=by
 go_enter func46,ntmps46;go_wp2_with fail
 all_goals
  go_ret;refine⟨eA ?_,rfl⟩;unfold iW;simp_all
theorem b48(c:Int)(w:H):bP prog 125 #[.int .u8 c] w (.bool (iW c)):=by
 go_enter func125,ntmps125;go_wp2_with fail
 all_goals
  go_ret;refine⟨eA ?_,rfl⟩;unfold iW
  first
   |(simp_all;done)
   |(rw[bX];simp only[kj,beq_iff_eq,decide_eq_true_eq];omega)
def z6(c:Int):O:=if c=38 then [38,97,109,112,59]else if c=34 then [38,35,51,52,59]else if c=39 then [38,35,51,57,59]else if c=60 then [38,35,54,48,59]else if c=62 then [38,35,54,50,59]else if c=96 then [38,35,57,54,59]else []
theorem Cp(c:Int):(z6 c).length<=5:=by
 unfold z6;repeat' split
 all_goals simp
theorem Cq(c:Int)(w:H):bP prog 48 #[.int .u8 c] w (S (z6 c)):=by
 go_enter func48,ntmps48;go_wp2_with fail
 all_goals
  go_ret;refine⟨AK ?_,rfl⟩;unfold z6;simp_all[Jl]
def Dh(x:UInt8):O:=if z6 (G x)=[]then [x]else z6 (G x)
theorem Rb(x:UInt8):(Dh x).length<=5:=by
 unfold Dh;have:=Cp (G x)
 split
 ·simp
 exact this
def qM(l:O):O:=l.flatMap Dh
theorem KQ(l:O)(k:Nat)(a:k<l.length):qM (l.take (k+1))=qM (l.take k)++Dh l[k]:=by
 unfold qM;rw[aH a,dL,cM,uj,aV]
theorem Co:∀ l:O,(qM l).length<=5*l.length
 | []=>by simp[qM]
 |x::l=>by
  have:=Co l;have Y:=Rb x;simp only[qM,cM,ae,cz]at this ⊢;omega
theorem FB(l:O)(w:H)(hl:l.length<=200000000000):bF prog 16 #[.string (E l)] w (S (qM l)):=by
 obtain⟨s,u⟩:=V (E l);have p:s.size=l.length:=by rw[u,aF]
 have g:∀ k (t:k<s.size) (h:k<l.length),((s[k]'t).toNat:Int)=G l[k]:=λk t h=>cy u t h;rw[<-u];clear u;obtain⟨N,R⟩:=V (s.size);have iP:s.size=N:=R.symm;have oP:N<=200000000000:=M0;have iV:=F g;clear g;have P:=F p;clear p hl R;go_enter func16,ntmps16;go_wp2_with fail
 go_loopw [8] (λiv wr=>∃ k:Nat,k<=N/\iv=.int .i64 k/\Hid (Hb w (qM (l.take k)) wr)) (λi _=>N-(intOf i).toNat)
 exact⟨0,M0,Oc,Hb.fresh w⟩
 obtain⟨k,t,rfl,c⟩:=hrel;by_cases hlt:k<N
 ·have mf:k<s.size:=by omega
  have j:k<l.length:=by have:=P.o;omega
  have X:=iV.o k mf j;have a:=KQ l k j;have hle:=Co (l.take k);rw[aD]at hle;have n:(qM (l.take k)).length<=1000000000000:=M0;have L:=jL l[k];generalize l[k]=x at X a L;have d:=Cp (G x);have hone:Dh x=if z6 (G x)=[]then [x]else z6 (G x):=rfl;have FS:=λW=>Cq (G x) W;rw[hone]at a;clear hone hle L;obtain⟨r,Q⟩:=V (z6 (G x));rw[<-Q]at a FS d;clear Q;obtain⟨M,B⟩:∃ M:Int,M=G x:=⟨_,rfl⟩;rw[<-B]at X FS;have HX:=F B;clear B;have K:=F FS;clear FS;have J:=F n;clear n;have y:=F d;clear d;by_cases he:r=[]
  ·subst he
   rw[if_pos rfl]at a;have z:=F a;clear a;have e1:(E []).toList.isEmpty=true:=by rw[aB];rfl
   have e2:(E []).toList=[]:=by rw[aB]
   go_wp2_with (first|(go_at_call 48;refine(K.o _).m ?_;rintro e w2 ⟨rfl,C⟩;subst w2)|(go_at_call 38;refine(Hb.Ti x _ HX.o c.o (by have:=J.o;omega)).m ?_;rintro e w2 ⟨rfl,q⟩;have D:=F q;clear q))
   go_roundw
   exact⟨k+1,M0,Oc,by rw[z.o];exact D⟩
   simp[intOf];omega
  rw[if_neg he]at a;have z:=F a;clear a;have e1:(E r).toList.isEmpty=false:=by rw[aB];simpa using he
  have e2:¬ (E r).toList=[]:=by rw[aB];exact he
  clear he
  go_wp2_with (first|(go_at_call 48;refine(K.o _).m ?_;rintro e w2 ⟨rfl,C⟩;subst w2)|(go_at_call 37;refine(Hb.ws r c.o (by have:=J.o;have:=y.o;omega)).m ?_;rintro e w2 ⟨rfl,q⟩;have D:=F q;clear q))
  go_roundw
  exact⟨k+1,M0,Oc,by rw[z.o];exact D⟩
  simp[intOf];omega
 obtain rfl:k=N:=M0
 go_wp2_with (first|(go_at_call 43;refine(Hb.str c.o).m ?_;rintro e w2 ⟨rfl,f⟩;have v:=F f;clear f))
 go_ret;refine⟨?_,v.o⟩;have T:=P.o;rw[iP]at T;rw[T,di];rfl

def pm(n:Nat):UInt8:=UInt8.ofNat (if n<10 then 48+n else 55+n)
theorem ON:∀ k:Fin 16,((⟨#[48,49,50,51,52,53,54,55,56,57,65,66,67,68,69,70]⟩:ByteArray)[k.val]'(by have:=k.isLt;show k.val<16;omega))=pm k.val:=by decide +kernel
def xq(set:Int)(x:UInt8):O:=if k6 set (G x)=true then [37,pm (x.toNat/16),pm (x.toNat%16)]else [x]
def dD(set:Int)(l:O):O:=l.flatMap (xq set)
theorem VQ(set:Int)(x:UInt8):(xq set x).length<=3:=by unfold xq;split <;>simp
theorem Rn(set:Int)(l:O)(k:Nat)(a:k<l.length):dD set (l.take (k+1))=dD set (l.take k)++xq set l[k]:=by
 unfold dD;rw[aH a,dL,cM,uj,aV]
theorem gv(set:Int):∀ l:O,(dD set l).length<=3*l.length
 | []=>by simp[dD]
 |x::l=>by
  have:=gv set l;have Y:=VQ set x;simp only[dD,cM,ae,cz]at this ⊢;omega
theorem eT(set:Int)(l:O)(w:H)(hl:l.length<=1024000000):bF prog 180 #[.string (E l),.int .i64 set] w (S (dD set l)):=by
 obtain⟨s,J⟩:=V (E l);have v:s.size=l.length:=by rw[J,aF]
 have n:∀ k (D:k<s.size) (p:k<l.length),((s[k]'D).toNat:Int)=G l[k]:=λk D p=>cy J D p;rw[<-J];clear J;obtain⟨N,hN⟩:=V (s.size);have iP:s.size=N:=hN.symm;have oP:N<=1024000000:=M0;have iV:=F n;clear n;have eM:=F v;clear v hl hN;go_enter func180,ntmps180;go_wp2_with fail
 go_loopw [10] (λiv wr=>∃ k:Nat,k<=N/\iv=.int .i64 k/\Hid (Hb w (dD set (l.take k)) wr)) (λi _=>N-(intOf i).toNat)
 exact⟨0,M0,Oc,Hb.fresh w⟩
 obtain⟨k,D,rfl,f⟩:=hrel;by_cases hlt:k<N
 ·have mf:k<s.size:=by omega
  have t:k<l.length:=by have:=eM.o;omega
  have X:=iV.o k mf t;have a:=Rn set l k t;have hle:=gv set (l.take k);rw[aD]at hle;have u:(dD set (l.take k)).length<=3072000000:=M0;have B:=jL l[k];generalize l[k]=x at X a B;unfold xq at a;have c:=λW=>VT set (G x) B.1 B.2 W;clear hle;obtain⟨q,Q⟩:=V (x.toNat/16);obtain⟨r,R⟩:=V (x.toNat%16);have M:q<16:=by have:=x.toNat_lt;omega
  have P:r<16:=M0;rw[<-Q,<-R]at a;obtain⟨F',hF⟩:=V (k6 set (G x));rw[<-hF]at a c;clear hF;obtain⟨g,C⟩:∃ g:Int,g=G x:=⟨_,rfl⟩;rw[<-C]at X c B;have d:g=(x.toNat:Int):=C;have ht:Int.tdiv g 16=(q:Int):=by rw[d,Q];exact(Int.ofNat_tdiv x.toNat 16).symm
  have hm:Int.tmod g 16=(r:Int):=by rw[d,R];exact(Int.ofNat_tmod x.toNat 16).symm
  have HX:=F C;clear C d Q R;have WZ:=F c;clear c;have z:=F u;clear u;cases F'
  ·rw[if_neg Oc]at a
   have L:=F a;clear a ht hm
   go_wp2_with (first|(go_at_call 225;refine(WZ.o _).m ?_;rintro e w2 ⟨rfl,T⟩;subst w2)|(go_at_call 38;refine(Hb.Ti x _ HX.o f.o (by have:=z.o;omega)).m ?_;rintro e w2 ⟨rfl,y⟩;have tQ:=F y;clear y))
   go_roundw
   exact⟨k+1,M0,Oc,by rw[L.o];exact tQ⟩
   simp[intOf];omega
  rw[if_pos rfl]at a;have L:=F a;clear a
  go_wp2_with (first|(go_at_call 225;refine(WZ.o _).m ?_;rintro e w2 ⟨rfl,T⟩;subst w2))
  go_at_call 38
  refine(Hb.Ti 37 37 rfl f.o (by have:=z.o;omega)).m ?_;rintro e w2 ⟨rfl,y⟩;have tQ:=F y;clear y;go_wp2_with fail
  go_at_call 38
  refine(Hb.Ti (pm q) _ (by have e:=ON ⟨q,M⟩;simp only at e;rw[e];rfl) tQ.o (by have:=z.o;simp only[ae,cz,aO];omega)).m ?_;rintro e w3 ⟨rfl,qR⟩;have lA:=F qR;clear qR;go_wp2_with fail
  go_at_call 38
  refine(Hb.Ti (pm r) _ (by have e:=ON ⟨r,P⟩;simp only at e;rw[e];rfl) lA.o (by have:=z.o;simp only[ae,cz,aO];omega)).m ?_;rintro e w4 ⟨rfl,PL⟩;have zA:=F PL;clear PL;go_wp2_with fail;go_roundw
  exact⟨k+1,M0,Oc,by rw[L.o];have h:=zA.o;simp only[bB,dE,f9]at h;exact h⟩
  simp[intOf];omega
 obtain rfl:k=N:=M0
 go_wp2_with (first|(go_at_call 43;refine(Hb.str f.o).m ?_;rintro e w2 ⟨rfl,j⟩;have K:=F j;clear j))
 go_ret;refine⟨?_,K.o⟩;have hz:=eM.o;rw[iP]at hz;rw[hz,di];rfl

theorem WF(u:Url)(cs:Array Z)(A:Z)(w:H)(h:sY cs A u)(f1:u.usr.length<=102400000)(f2:u.ib.length<=102400000) :
  bF prog 39 #[.agg cs] w (S (uf u)):=by
 have Y:=h.usr;have I:=h.ib;clear h;obtain⟨R,c⟩:=V (uf u);rw[<-c];unfold uf at c;generalize u.usr=x at Y f1 c;generalize u.ib=y at I f2 c;have f:=F c;clear c;go_enter func39,ntmps39
 go_wp2_with (first|(refine boxed rfl _ _ rfl cs rfl ?_;intro bx w1 hb1 hb2 d a e;have c1:=(a 1).trans Y;have c2:=(a 2).trans I;clear a d))
 all_goals
  go_ret;refine⟨AK ?_,e⟩;rw[f.o];simp_all[aB,Gs,Jl]

theorem Gk(l:List O)(k:Nat)(a:k<l.length):cH (l.take (k+1))=cH (l.take k)++[47]++l[k]:=by
 rw[aH a,jc]
theorem vO(l:List O)(k:Nat):(cH (l.take k)).length<=(cH l).length:=by
 conv=>rhs;rw[<-List.take_append_drop k l]
 rw[su,ae];omega
theorem Mt(u:Url)(cs:Array Z)(A:Z)(w:H)(h:sY cs A u)(hp:Sl w.heap.size w A (u.path.map S))(z:(cH u.path).length<=1024000000) :
  bF prog 42 #[.agg cs] w (S (nh u)):=by
 have Y:=h.opq;have I:=h.flat;have M:=h.path;clear h;obtain⟨R,f⟩:=V (nh u);rw[<-f];unfold nh at f;generalize u.flat=fl at I f;generalize u.path=p at hp z f;cases K:u.opq
 ·rw[K]at Y f
  obtain⟨av,c,y⟩:=cQ hp;rw[ay]at y;subst y;obtain⟨N,C⟩:=V (p.length);rw[<-C]at M hp;have mc:=sw p;have oP:N<=1024000000:=M0;clear mc;have L:=F C;clear C;have W:=F z;clear z;have HP:=F hp;clear hp;have g:R=cH p:=f;clear f;have HR:=F g;clear g;clear K I;go_enter func42,ntmps42
  go_wp2_with (first|(refine boxed rfl _ _ rfl cs rfl ?_;intro bx w1 t d q a j;have c1:=(a 16).trans Y;have c2:=(a 18).trans M;clear a q))
  have HB:=F j;clear j t d
  go_loopw [13] (λiv wr=>∃ k:Nat,k<=N/\iv=.int .i64 k/\Hid (Hb w1 (cH (p.take k)) wr)) (λi _=>N-(intOf i).toNat)
  exact⟨0,M0,Oc,Hb.fresh w1⟩
  obtain⟨k,hk,rfl,r⟩:=hrel;by_cases J:k<N
  ·have x:k<p.length:=by rw[<-L.o];exact J
   obtain⟨b,o,rfl,hbb,D⟩:=gO ((HP.o.below HB.o).below (r.o.bL.m HB.o.size)) k x;have n:=Gk p k x;have l:=vO p (k+1);have hL:=W.o;rw[n]at l;simp only[ae,cz,aO]at l;generalize p[k]=piece at D n l;have v:(cH (p.take k)).length+1+piece.length<=1024000000:=M0;clear l hL;have T:=F n;clear n;have s:=F v;clear v
   go_wp2_with (first|(go_at_call 38;refine(Hb.Ti 47 _ rfl r.o (by have:=s.o;omega)).m ?_;rintro e w2 ⟨rfl,P⟩;have tQ:=F P;clear P)|(go_at_call 37;refine(Hb.ws piece tQ.o (by have:=s.o;simp;omega)).m ?_;rintro e w3 ⟨rfl,Q⟩;have lA:=F Q;clear Q))
   go_roundw
   exact⟨k+1,M0,Oc,by rw[T.o];exact lA⟩
   simp[intOf];omega
  obtain rfl:k=N:=M0
  go_wp2_with (first|(go_at_call 43;refine(Hb.str r.o).m ?_;rintro e w2 ⟨rfl,d⟩;have B:=F d;clear d))
  go_ret;refine⟨?_,HB.o.trans (B.o.m HB.o.size)⟩;rw[HR.o,L.o,di];rfl
 rw[K]at Y f;have g:R=fl:=f;clear f hp z;subst g;go_enter func42,ntmps42
 go_wp2_with (first|(refine boxed rfl _ _ rfl cs rfl ?_;intro bx w1 t d q a j;have c1:=(a 16).trans Y;have c2:=(a 17).trans I;clear a q))
 go_ret;exact⟨rfl,j⟩

import Derived.Test.YtagfilhbpnjhkaaGreatDoorFGReg
import Derived.Test.YtagfilhbpnjhkaaGreatDoorFGPctA
set_option maxRecDepth 10000
set_option maxHeartbeats 0
namespace Go.Proofs.Q
open Tryz Go.RowKit
variable{w' wb:H}
structure Hb (wb:H) (l:O) (w:H):Prop where
 bld:∃g,sR wb.heap.size g l w/\∀k,g=some k->wb.heap.size<=k
 bL:r7 wb w
theorem Hb.fresh(wb:H):Hb wb [] (wb.alloc (.cells #[.pointer none,.slice none 0 0] 70)) :=
 ⟨⟨none,sR.fresh wb,λ_ h=>by cases h⟩,(gT _ _).alloc (ag _) _⟩
theorem Hb.step{w:H}{l:O}(h:Hb wb l w)(U:r7 w w'):Hb wb l w':=by
 obtain⟨g,Y,I⟩:=h.bld;exact⟨⟨g,Y.below U,I⟩,h.bL.trans (U.m h.bL.size)⟩
theorem Hb.Ax{w:H}{l':O}{g:Option Nat}(c:∀k,g=some k->wb.heap.size<=k)(U:r7 wb w)(h:EM w wb.heap.size g l' w'):Hb wb l' w':=by
 obtain⟨e,d,a2,a3⟩:=h;refine⟨⟨e,d,λk a=>?_⟩,U.trans (a3.below U.size ?_)⟩
 ·rcases a2 with h|⟨k',h,h'⟩
  ·exact c k (h▸a)
  rw[h]at a;injection a with a;have:=U.size;omega
 rintro k (h|h)
 ·omega
 exact c k h
theorem Hb.ws{w:H}{l:O}(m:O)(h:Hb wb l w)(hlen:l.length+m.length<=1099511627776) :
  Calls prog 27 #[.pointer (some ⟨wb.heap.size,0,none⟩),S m] w λe w'=>e=.returned (.tuple #[.int .i64 m.length,.nilIface])/\Hb wb (l++m) w':=by
 obtain⟨g,Y,I⟩:=h.bld;refine(py m Y hlen).m ?_;rintro e w'⟨rfl,a⟩;exact⟨rfl,Hb.Ax I h.bL a⟩
theorem Hb.Ti{w:H}{l:O}(m:UInt8)(n:Int)(a:n=G m)(h:Hb wb l w)(hlen:l.length+1<=1099511627776) :
  Calls prog 28 #[.pointer (some ⟨wb.heap.size,0,none⟩),.int .u8 n] w λe w'=>e=.returned .nilIface/\Hb wb (l++[m]) w':=by
 subst a;obtain⟨g,Y,I⟩:=h.bld;refine(pM m Y hlen).m ?_;rintro e w'⟨rfl,c⟩;exact⟨rfl,Hb.Ax I h.bL c⟩
theorem Hb.str{w:H}{l:O}(h:Hb wb l w) :
  Calls prog 33 #[.pointer (some ⟨wb.heap.size,0,none⟩)] w λe w'=>e=.returned (S l)/\r7 wb w':=by
 obtain⟨g,Y,I⟩:=h.bld;refine(kX wb.heap.size Y (ag _) I).m ?_;rintro e w'⟨rfl,a⟩;exact⟨rfl,h.bL.trans a⟩
theorem boxed{P:Program}{ops:Array Oper}{rest:List Oper}{o:Oper}{a:Act}{w:H}{Q:Exit->Act->H->Prop}(d:o.guard=none)(t:TypeId)(x:Operand)(e:o.op=.box t x)
  (cs:Array Z) (X:a.eval x=.agg cs)
  (h:∀c w',w.heap.size<=c->c<w'.heap.size->w'.heap[c]?= some (.cells cs t (0,0))->(∀i,w'.cell? ⟨c,i,none⟩=cs[i]?)->r7 w w'->wpList P ops Q rest (a.put o.dst (.pointer (some ⟨c,0,none⟩))) w'):wpList P ops Q (o::rest) a w:=by
 refine Go.Great.wpList_boxTo d t x e _ rfl _ rfl cs (by rw[X];rfl) ?_;refine h w.heap.size _ (ag _) Oc (jp w _) (λi=>?_) ((gT _ _).alloc (ag _) _);rw[hx]
theorem gO{B:Nat}{w:H}{a:Option Addr}{n c:Nat}{l:List O}(h:Sl B w (.slice a n c) (l.map S))(k:Nat)(d:k<l.length) :
  ∃b o,a=some ⟨b,o,none⟩/\b<B/\w.cell? ⟨b,o+k,none⟩=some (S l[k]):=by
 obtain⟨c',_,_,h⟩:=h;rcases h with⟨f,_⟩|⟨b,o,U,g,e⟩
 ·have:l=[]:=by simpa using f
  subst this;simp at d
 injection g with Y I h3
 refine⟨b,o,Y,U,?_⟩;have:=e k (by simpa using d)
 simpa using this
def uf(u:Url):O:=if u.usr=[]/\u.ib=[]then []else if u.ib=[]then u.usr++[64]else u.usr++[58]++u.ib++[64]
def cH:List O->O
 | []=>[]
 |p::r=>[47]++p++cH r
theorem su:∀(l m:List O),cH (l++m)=cH l++cH m
 | [],m=>rfl
 |p::l,m=>by simp[cH,su l m]
theorem jc(l:List O)(p:O):cH (l++[p])=cH l++[47]++p:=by simp[su,cH]
def nh(u:Url):O:=if u.opq then u.flat else cH u.path
structure EN (u:Url):Prop where
 path:u.path.length<=50
 tot:(u.path.map List.length).sum<=2000
 aJ:u.aJ.length<=100
 usr:u.usr.length<=500
 ib:u.ib.length<=500
 flat:u.flat.length<=1000
 q:u.q.length<=1000
 f:u.f.length<=1000
 name:u.host.name.length<=500
theorem sw:∀l:List O,(cH l).length=l.length+(l.map List.length).sum
 | []=>rfl
 |p::r=>by simp[cH,sw r];omega
theorem Gs(a b:ByteArray):ls (a++b)=ls a++ls b:=by
 have h:=mm (ls a) (ls b);rw[kt,kt]at h;rw[h,cW]
theorem Jl(a:Array UInt8):ls ⟨a⟩=a.toList:=rfl

def iW(c:Int):Bool:=decide (c=9\/c=10\/c=12\/c=13\/c=32)
theorem fh(c:Int)(w:H):bP prog 34 #[.int .u8 c] w (.bool (iW c)):=by
 go_enter func34,ntmps34;go_wp2_with fail
 all_goals
  go_ret;refine⟨eA ?_,rfl⟩;unfold iW;simp_all
theorem b48(c:Int)(w:H):bP prog 112 #[.int .u8 c] w (.bool (iW c)):=by
 go_enter func112,ntmps112;go_wp2_with fail
 all_goals
  go_ret;refine⟨eA ?_,rfl⟩;unfold iW
  first
   |(simp_all;done)
   |(rw[bX];simp only[kj,beq_iff_eq,gx];omega)
def z6(c:Int):O:=if c=38 then [38,97,109,112,59]else if c=34 then [38,35,51,52,59]else if c=39 then [38,35,51,57,59]else if c=60 then [38,35,54,48,59]else if c=62 then [38,35,54,50,59]else if c=96 then [38,35,57,54,59]else []
theorem Cp(c:Int):(z6 c).length<=5:=by
 unfold z6;repeat' split
 all_goals simp
theorem Cq(c:Int)(w:H):bP prog 71 #[.int .u8 c] w (S (z6 c)):=by
 go_enter func71,ntmps71;go_wp2_with fail
 all_goals
  go_ret;refine⟨AK ?_,rfl⟩;unfold z6;simp_all[Jl]
def Dh(x:UInt8):O:=if z6 (G x)=[]then [x]else z6 (G x)
theorem Rb(x:UInt8):(Dh x).length<=5:=by
 unfold Dh;have:=Cp (G x)
 split
 ·simp
 exact this
def qM(l:O):O:=l.flatMap Dh
theorem KQ(l:O)(k:Nat)(a:k<l.length):qM (l.take (k+1))=qM (l.take k)++Dh l[k]:=by
 unfold qM;rw[aH a,dL,cM,uj,aV]
theorem Co:∀l:O,(qM l).length<=5*l.length
 | []=>by simp[qM]
 |x::l=>by
  have:=Co l;have Y:=Rb x;simp only[qM,cM,ae,cz]at this⊢;omega
theorem FB(l:O)(w:H)(hl:l.length<=200000000000):bF prog 38 #[.string (E l)] w (S (qM l)):=by
 obtain⟨s,v⟩:=V (E l);have q:s.size=l.length:=by rw[v,aF]
 have h:∀k (u:k<s.size) (j:k<l.length),((s[k]'u).toNat:Int)=G l[k]:=λk u j=>cy v u j;rw[<-v];clear v;obtain⟨N,T⟩:=V (s.size);have iP:s.size=N:=T.symm;have oP:N<=200000000000:=M0;have iV:=F h;clear h;have Q:=F q;clear q hl T;go_enter func38,ntmps38;go_wp2_with fail
 go_loopw [8] (λiv wr=>∃k:Nat,k<=N/\iv=.int .i64 k/\Hid (Hb w (qM (l.take k)) wr)) (λi _=>N-(intOf i).toNat)
 exact⟨0,M0,Oc,Hb.fresh w⟩
 obtain⟨k,u,rfl,c⟩:=hrel;by_cases hlt:k<N
 ·have mf:k<s.size:=by omega
  have n:k<l.length:=by have:=Q.o;omega
  have X:=iV.o k mf n;have a:=KQ l k n;have hle:=Co (l.take k);rw[aD]at hle;have p:(qM (l.take k)).length<=1000000000000:=M0;have M:=jL l[k];generalize l[k]=x at X a M;have d:=Cp (G x);have hone:Dh x=if z6 (G x)=[]then [x]else z6 (G x):=rfl;have FS:=λW=>Cq (G x) W;rw[hone]at a;clear hone hle M;generalize z6 (G x)=t at a FS d;obtain⟨P,HX⟩:=ey (G x:Int);rw[<-HX.o]at X FS;have L:=F FS;clear FS;have K:=F p;clear p;have z:=F d;clear d;by_cases he:t=[]
  ·subst he
   rw[ge rfl]at a;have B:=F a;clear a;have e1:(E []).toList.isEmpty=true:=by rw[aB];rfl
   have e2:(E []).toList=[]:=by rw[aB]
   go_wp2_with(first|(go_at_call 71;refine(L.o _).e ?_)|(go_at_call 28;refine(Hb.Ti x _ HX.o c.o (by have:=K.o;omega)).k λf J=>?_))
   go_roundw
   exact⟨k+1,M0,Oc,by rw[B.o];exact J⟩
   exact aa
  rw[gc he]at a;have B:=F a;clear a;have e1:(E t).toList.isEmpty=false:=by rw[aB];simpa using he
  have e2:¬(E t).toList=[]:=by rw[aB];exact he
  clear he
  go_wp2_with(first|(go_at_call 71;refine(L.o _).e ?_)|(go_at_call 27;refine(Hb.ws t c.o (by have:=K.o;have:=z.o;omega)).k λf J=>?_))
  go_roundw
  exact⟨k+1,M0,Oc,by rw[B.o];exact J⟩
  exact aa
 obtain rfl:k=N:=M0
 go_wp2_with(go_at_call 33;refine(Hb.str c.o).k λf y=>?_)
 go_ret;refine⟨?_,y.o⟩;have hz:=Q.o;rw[iP]at hz;rw[hz,di];rfl

def pm(n:Nat):UInt8:=UInt8.ofNat (if n<10 then 48+n else 55+n)
theorem ON:∀k:Fin 16,((⟨#[48,49,50,51,52,53,54,55,56,57,65,66,67,68,69,70]⟩:ByteArray)[k.val]'(by have:=k.isLt;show k.val<16;omega))=pm k.val:=by decide +kernel
def xq(set:Int)(x:UInt8):O:=if k6 set (G x)=true then [37,pm (x.toNat/16),pm (x.toNat%16)]else [x]
def dD(set:Int)(l:O):O:=l.flatMap (xq set)
theorem VQ(set:Int)(x:UInt8):(xq set x).length<=3:=by unfold xq;split <;>simp
theorem Rn(set:Int)(l:O)(k:Nat)(a:k<l.length):dD set (l.take (k+1))=dD set (l.take k)++xq set l[k]:=by
 unfold dD;rw[aH a,dL,cM,uj,aV]
theorem gv(set:Int):∀l:O,(dD set l).length<=3*l.length
 | []=>by simp[dD]
 |x::l=>by
  have:=gv set l;have Y:=VQ set x;simp only[dD,cM,ae,cz]at this⊢;omega
theorem eT(set:Int)(l:O)(w:H)(hl:l.length<=1024000000):bF prog 167 #[.string (E l),.int .i64 set] w (S (dD set l)):=by
 obtain⟨s,K⟩:=V (E l);have y:s.size=l.length:=by rw[K,aF]
 have p:∀k (J:k<s.size) (t:k<l.length),((s[k]'J).toNat:Int)=G l[k]:=λk J t=>cy K J t;rw[<-K];clear K;obtain⟨N,hN⟩:=V (s.size);have iP:s.size=N:=hN.symm;have oP:N<=1024000000:=M0;have iV:=F p;clear p;have eM:=F y;clear y hl hN;go_enter func167,ntmps167;go_wp2_with fail
 go_loopw [10] (λiv wr=>∃k:Nat,k<=N/\iv=.int .i64 k/\Hid (Hb w (dD set (l.take k)) wr)) (λi _=>N-(intOf i).toNat)
 exact⟨0,M0,Oc,Hb.fresh w⟩
 obtain⟨k,J,rfl,f⟩:=hrel;by_cases hlt:k<N
 ·have mf:k<s.size:=by omega
  have u:k<l.length:=by have:=eM.o;omega
  have X:=iV.o k mf u;have a:=Rn set l k u;have hle:=gv set (l.take k);rw[aD]at hle;have v:(dD set (l.take k)).length<=3072000000:=M0;have C:=jL l[k];generalize l[k]=x at X a C;unfold xq at a;have c:=λW=>VT set (G x) C.1 C.2 W;clear hle;obtain⟨q,R,r,T⟩:=ac (x.toNat/16) (x.toNat%16);have P:q<16:=by have:=x.toNat_lt;omega
  have Q:r<16:=M0;rw[<-R,<-T]at a;generalize k6 set (G x)=F' at a c;obtain⟨j,D⟩:=V (G x:Int);rw[<-D]at X c C;have d:j=(x.toNat:Int):=D;have ht:Int.tdiv j 16=(q:Int):=by rw[d,R];exact(Int.ofNat_tdiv x.toNat 16).symm
  have hm:Int.tmod j 16=(r:Int):=by rw[d,T];exact(Int.ofNat_tmod x.toNat 16).symm
  have HX:=F D;clear D d R T;have WZ:=F c;clear c;have B:=F v;clear v;cases F'
  ·rw[gc Oc]at a
   have M:=F a;clear a ht hm
   go_wp2_with(first|(go_at_call 208;refine(WZ.o _).e ?_)|(go_at_call 28;refine(Hb.Ti x _ HX.o f.o (by have:=B.o;omega)).k λg tQ=>?_))
   go_roundw
   exact⟨k+1,M0,Oc,by rw[M.o];exact tQ⟩
   exact aa
  rw[ge rfl]at a;have M:=F a;clear a
  go_wp2_with(go_at_call 208;refine(WZ.o _).e ?_)
  go_at_call 28
  refine(Hb.Ti 37 37 rfl f.o (by have:=B.o;omega)).k λg tQ=>?_;go_wp2_with fail
  go_at_call 28
  refine(Hb.Ti (pm q) _ (by have e:=ON ⟨q,P⟩;simp only at e;rw[e];rfl) tQ.o (by have:=B.o;simp only[ae,cz,aO];omega)).k λw3 lA=>?_;go_wp2_with fail
  go_at_call 28
  refine(Hb.Ti (pm r) _ (by have e:=ON ⟨r,Q⟩;simp only at e;rw[e];rfl) lA.o (by have:=B.o;simp only[ae,cz,aO];omega)).k λw4 zA=>?_;go_wp2_with fail;go_roundw
  exact⟨k+1,M0,Oc,by rw[M.o];have h:=zA.o;simp only[bB,dE,f9]at h;exact h⟩
  exact aa
 obtain rfl:k=N:=M0
 go_wp2_with(go_at_call 33;refine(Hb.str f.o).k λg L=>?_)
 go_ret;refine⟨?_,L.o⟩;have hz:=eM.o;rw[iP]at hz;rw[hz,di];rfl

theorem WF(u:Url)(cs:Array Z)(A:Z)(w:H)(h:sY cs A u)(f1:u.usr.length<=102400000)(f2:u.ib.length<=102400000) :
  bF prog 29 #[.agg cs] w (S (uf u)):=by
 have Y:=h.usr;have I:=h.ib;clear h;obtain⟨R,c⟩:=V (uf u);rw[<-c];unfold uf at c;generalize u.usr=x at Y f1 c;generalize u.ib=y at I f2 c;have f:=F c;clear c;go_enter func29,ntmps29
 go_wp2_with(refine boxed rfl _ _ rfl cs rfl ?_;intro bx w1 hb1 hb2 d a e;have c1:=(a 1).trans Y;have c2:=(a 2).trans I;clear a d)
 all_goals
  go_ret;refine⟨AK ?_,e⟩;rw[f.o];simp_all[aB,Gs,Jl]

theorem Gk(l:List O)(k:Nat)(a:k<l.length):cH (l.take (k+1))=cH (l.take k)++[47]++l[k]:=by
 rw[aH a,jc]
theorem vO(l:List O)(k:Nat):(cH (l.take k)).length<=(cH l).length:=by
 conv=>rhs;rw[<-List.take_append_drop k l]
 rw[su,ae];omega
theorem Mt(u:Url)(cs:Array Z)(A:Z)(w:H)(h:sY cs A u)(hp:Sl w.heap.size w A (u.path.map S))(z:(cH u.path).length<=1024000000) :
  bF prog 32 #[.agg cs] w (S (nh u)):=by
 have Y:=h.opq;have I:=h.flat;have P:=h.path;clear h;obtain⟨R,f⟩:=V (nh u);rw[<-f];unfold nh at f;generalize u.flat=fl at I f;generalize u.path=p at hp z f;cases K:u.opq
 ·rw[K]at Y f
  obtain⟨av,c,y⟩:=cQ hp;rw[ay]at y;subst y;obtain⟨N,C⟩:=V (p.length);rw[<-C]at P hp;have mc:=sw p;have oP:N<=1024000000:=M0;clear mc;have M:=F C;clear C;have HL:=F z;clear z;have HP:=F hp;clear hp;have g:R=cH p:=f;clear f;have HR:=F g;clear g;clear K I;go_enter func32,ntmps32
  go_wp2_with(refine boxed rfl _ _ rfl cs rfl ?_;intro bx L t d q a j;have c1:=(a 16).trans Y;have c2:=(a 18).trans P;clear a q)
  have HB:=F j;clear j t d
  go_loopw [13] (λiv wr=>∃k:Nat,k<=N/\iv=.int .i64 k/\Hid (Hb L (cH (p.take k)) wr)) (λi _=>N-(intOf i).toNat)
  exact⟨0,M0,Oc,Hb.fresh L⟩
  obtain⟨k,hk,rfl,r⟩:=hrel;by_cases J:k<N
  ·have x:k<p.length:=by rw[<-M.o];exact J
   obtain⟨b,o,rfl,hbb,D⟩:=gO ((HP.o.below HB.o).below (r.o.bL.m HB.o.size)) k x;have n:=Gk p k x;have l:=vO p (k+1);have hL:=HL.o;rw[n]at l;simp only[ae,cz,aO]at l;generalize p[k]=piece at D n l;have v:(cH (p.take k)).length+1+piece.length<=1024000000:=M0;clear l hL;have W:=F n;clear n;have s:=F v;clear v
   go_wp2_with(first|(go_at_call 28;refine(Hb.Ti 47 _ rfl r.o (by have:=s.o;omega)).k λw2 tQ=>?_)|(go_at_call 27;refine(Hb.ws piece tQ.o (by have:=s.o;simp;omega)).k λw3 lA=>?_))
   go_roundw
   exact⟨k+1,M0,Oc,by rw[W.o];exact lA⟩
   exact aa
  obtain rfl:k=N:=M0
  go_wp2_with(go_at_call 33;refine(Hb.str r.o).k λw2 B=>?_)
  go_ret;refine⟨?_,HB.o.trans (B.o.m HB.o.size)⟩;rw[HR.o,M.o,di];rfl
 rw[K]at Y f;have g:R=fl:=f;clear f hp z;subst g;go_enter func32,ntmps32
 go_wp2_with(refine boxed rfl _ _ rfl cs rfl ?_;intro bx L t d q a j;have c1:=(a 16).trans Y;have c2:=(a 17).trans I;clear a q)
 go_ret;exact⟨rfl,j⟩

import Derived.Test.YtagfilhbpnjhkaaGreatDoorFGFloA
set_option maxRecDepth 10000
set_option maxHeartbeats 0
namespace Go.Proofs.Q
open Tryz Go.RowKit
theorem vf{p q:UInt8->Bool}(h:∀x,p x=q x)(s:O):s.dropWhile p=s.dropWhile q:=by
 rw[show p=q from funext h]
theorem JF(x:UInt8):([9,10,13,32]:O).contains x=GX x:=ku (P:=λx=>([9,10,13,32]:O).contains x=GX x) (by decide +kernel) x
theorem zm(s:O):Lib.trimRightS s [9,10,13,32]=fN GX s:=by
 unfold Lib.trimRightS fN
 congr 1
 exact vf JF _
theorem xc(p:UInt8->Bool)(c:UInt8)(t:O):fN p (c::t)=if fN p t=[]/\p c=true then []else c::fN p t:=by
 unfold fN;rw[List.reverse_cons,List.dropWhile_append];cases h:t.reverse.dropWhile p with
 |nil =>
  rw[List.isEmpty_nil,ge rfl];cases d:p c with
  |true=>rw[aQ d];simp
  |false=>rw[aX (by rw[d];simp)];simp
 |cons a b =>
  rw[List.isEmpty_cons,gc Oc,gc Oc];simp
theorem zn(p:UInt8->Bool):∀s:O,(fN p s).dropWhile p=fN p (s.dropWhile p)
 | []=>rfl
 |c::t=>by
  have d:=zn p t;rw[xc];cases a:p c with
  |true =>
   rw[aQ a];by_cases h:fN p t=[]
   ·rw[ge ⟨h,rfl⟩,<-d,h]
   rw[gc (λI=>h I.1),aQ a,d]
  |false =>
   rw[gc (λI=>by cases I.2),aX (by rw[a];simp),aX (by rw[a];simp),xc,gc (λI=>by rw[a]at I;cases I.2)]
theorem ME(s:O):Lib.trimS s [9,10,13,32]=trimB GX s:=by
 unfold Lib.trimS trimB;rw[zm,<-zn];exact vf JF _
theorem Sr(s:O):Lib.trimRightS s [32]=fN (λx=>decide (x=32)) s:=by
 unfold Lib.trimRightS fN
 congr 1
 exact vf (λx=>ku (P:=λx=>([32]:O).contains x=decide (x=32)) (by decide +kernel) x) _
theorem b6y(p:UInt8->Bool)(s:O):(fN p s).length<=s.length:=by
 unfold fN;rw[fc];exact am (ce _).length_le Oc
theorem zl(p:UInt8->Bool)(s:O):(trimB p s).length<=s.length:=am (b6y _ _) (ce _).length_le
theorem MG(u:O)(w:H)(hu:u.length<=1024000000):bF prog 89 #[.string (E u),.string (E [9,10,13,32])] w (S (fN GX u)):=by
 have h116:(prog.info? (laysTR_ren.t 116)).map (λi=>(i.zero,i.size))=some (some (.agg (Array.replicate 256 (.bool false))),256):=Rz;have h:=Any.strings_TrimRight_laid laysTR h116 (E u) (E [9,10,13,32]) w (by rw[aF];omega) P8 (ascii_of_all P8);rw[show(E u).data.toList=u from cW u,show(E [9,10,13,32]).data.toList=[9,10,13,32]from cW _,zm]at h;exact h
theorem DY(u:O)(w:H)(hu:u.length<=1024000000):bF prog 89 #[.string (E u),.string (E [32])] w (S (fN (λx=>decide (x=32)) u)):=by
 have h116:(prog.info? (laysTR_ren.t 116)).map (λi=>(i.zero,i.size))=some (some (.agg (Array.replicate 256 (.bool false))),256):=Rz;have h:=Any.strings_TrimRight_laid laysTR h116 (E u) (E [32]) w (by rw[aF];omega) P8 (ascii_of_all P8);rw[show(E u).data.toList=u from cW u,show(E [32]).data.toList=[32]from cW _,Sr]at h;exact h
theorem MD(u:O)(w:H)(hu:u.length<=1024000000):bF prog 175 #[.string (E u),.string (E [9,10,13,32])] w (S (trimB GX u)):=by
 have h116:(prog.info? (laysTm_ren.t 116)).map (λi=>(i.zero,i.size))=some (some (.agg (Array.replicate 256 (.bool false))),256):=Rz;have h:=Any.strings_Trim_laid laysTm h116 (E u) (E [9,10,13,32]) w (by rw[aF];omega) P8 (ascii_of_all P8);rw[show(E u).data.toList=u from cW u,show(E [9,10,13,32]).data.toList=[9,10,13,32]from cW _,ME]at h;exact h
def wV:O:=[33,35,36,37,38,39,42,43,45,46,94,95,96,124,126]
theorem a0Y(x:UInt8):iO wV (G x)=decide (x∈wV):=ku (P:=λx=>iO wV (G x)=decide (x∈wV)) (by decide +kernel) x
theorem a0Z(x:UInt8):0<=Lib.indexByte wV x ↔ x∈wV:=by rw[oe,a0Y,gx]
theorem Ww(x:UInt8):AZ x=(iQ (G x) || !(decide (fg (G x) 10<0))||decide (0<=Lib.indexByte wV x)):=by
 rw[decide_eq_decide.mpr (a0Z x)];rfl
theorem NI{p:UInt8->Bool}{l:O}{k:Nat}(a:k<l.length):(l.take (k+1)).all p=((l.take k).all p&&p l[k]):=by
 rw[aH a,Xe];simp
theorem Ub{p:UInt8->Bool}{l:O}{k:Nat}(a:k<l.length)(h:p l[k]=false):l.all p=false:=by
 rw[<-Bool.not_eq_true,dl];intro I;rw[I _ (be a)]at h;cases h
theorem zk(l:O)(w:H)(hl:l.length<=1024000000):bP prog 176 #[.string (E l)] w (.bool (DW l)):=by
 obtain⟨R,Q⟩:=ey (DW l);rw[<-Q.o];obtain⟨s,t⟩:=V (E l);have u:s.size=l.length:=by rw[t,aF]
 have q:∀k (y:k<s.size) (r:k<l.length),((s[k]'y).toNat:Int)=G l[k]:=λk y r=>cy t y r;obtain⟨em,j⟩:=V (l.isEmpty);have hE:(s.toList.isEmpty)=em:=by rw[t,aB,j]
 have UK:=F j;rw[<-t];clear t j;obtain⟨N,hN⟩:=V (s.size);have iP:s.size=N:=hN.symm;have oP:N<=1024000000:=M0;have iV:=F q;clear q;have J:=F hE;clear hE;have eM:=F u;clear u hl hN;generalize w=w3;go_enter func176,ntmps176;go_wp2_with fail
 go_loopw [3] (λiv wr=>∃k:Nat,k<=N/\iv=.int .i64 k/\Hid ((l.take k).all AZ=true)/\w3=wr) (λi _=>N-(intOf i).toNat)
 exact⟨0,M0,Oc,F rfl,rfl⟩
 obtain⟨k,y,rfl,hd,rfl⟩:=hrel;by_cases hlt:k<N
 ·have mf:k<s.size:=by omega
  have n:k<l.length:=by have:=eM.o;omega
  have X:=iV.o k mf n;have c:=λW=>Any.strings_IndexByte laysIB (E wV) (G l[k]) W;rw[show(E wV).data.toList=wV from cW _,show(G l[k]).toNat.toUInt8=l[k] by simp[G]]at c;have B:=F<|NI (p:=AZ) n;have px:=F (λh=>show R=false by rw[Q.o];unfold DW;rw[Ub (p:=AZ) n h];rfl);have a:=Ww l[k];have hlt2:=λW=>kD (G l[k]) W;have f:=λW=>dm (G l[k]) 10 W (gH _) M0;generalize Lib.indexByte wV l[k]=x at c a;generalize AZ l[k]=T at B px a;generalize G l[k]=K at X c a hlt2 f;generalize fg K 10=D at f a;generalize iQ K=L at hlt2 a;obtain⟨L8,z,C⟩:=cZ (show ∀W,bP prog 98 #[.string ⟨#[33,35,36,37,38,39,42,43,45,46,94,95,96,124,126]⟩,.int .u8 K] W (.int .i64 x)from c) hlt2 f;clear c hlt2 f;cases L with
  |true =>
   have d:=F (show(l.take (k+1)).all AZ=true by rw[B.o,hd.o,a];rfl);clear a hd
   go_wp2_with(go_at_call 117;refine(z.o _).e ?_)
   go_roundw
   exact⟨k+1,M0,by go_num,d.o,by trivial⟩
   exact aa
  |false =>
   by_cases hD:D<0
   ·by_cases hI:0<=x
    ·have d:=F (show(l.take (k+1)).all AZ=true by rw[B.o,hd.o,a,gr hI];simp)
     have M:¬x<0:=M0;clear a hd
     go_wp2_with(first|(go_at_call 117;refine(z.o _).e ?_)|(go_at_call 93;refine(C.o _).e ?_)|(go_at_call 98;refine(L8.o _).e ?_))
     go_roundw
     exact⟨k+1,M0,by go_num,d.o,by trivial⟩
     exact aa
    have d:=F<|px.o (show T=false by rw[a,gr hD,gh hI];rfl);have M:x<0:=M0;clear a hd
    go_wp2_with(first|(go_at_call 117;refine(z.o _).e ?_)|(go_at_call 93;refine(C.o _).e ?_)|(go_at_call 98;refine(L8.o _).e ?_))
    go_ret;exact⟨by rw[d.o];rfl,by trivial⟩
   have d:=F (show(l.take (k+1)).all AZ=true by rw[B.o,hd.o,a,gh hD];simp);clear a hd
   go_wp2_with(first|(go_at_call 117;refine(z.o _).e ?_)|(go_at_call 93;refine(C.o _).e ?_))
   go_roundw
   exact⟨k+1,M0,by go_num,d.o,by trivial⟩
   exact aa
 obtain rfl:k=N:=M0
 have d:=F (show R=!em by
  have h:=hd.o;rw[aP (by have:=eM.o;omega)]at h;rw[Q.o,UK.o];unfold DW;rw[h];rfl)
 have hq:=J.o;clear hd;go_wp2_with fail;go_ret;exact⟨by rw[d.o];rfl,by trivial⟩

def GI(s:O):O:=(s.reverse.dropWhile mw).reverse
theorem VY(s:O)(c:UInt8):GI (s++[c])=if mw c=true then GI s else s++[c]:=by
  unfold GI;rw[jK];show(List.dropWhile mw (c::s.reverse)).reverse=_;cases h:mw c with
  |true=>rw[aQ h];rfl
  |false=>rw[aX (by simp[h])];simp
theorem a5g{s:O}{k:Nat}(h:s.length=k+1):GI s=if iW (G (s[k]' M0))=true then GI (s.take k)else s:=by
  have e:s=s.take k++[s[k]' M0]:=by
    rw[<-List.take_succ_eq_append_getElem M0,aP M0]
  have c:=VY (s.take k) (s[k]' M0);rw[<-e]at c;rw[c];unfold mw;by_cases a:iW (G (s[k]' M0))=true
  · rw[ge a]
  rw[gc a]
theorem a0o{s:O}(h:0<s.length):s.dropWhile mw=if iW (G s[0])=true then(s.drop 1).dropWhile mw else s:=by
  cases s with
  |nil=>cases h
  |cons c t =>
    show List.dropWhile mw (c::t)=if iW (G c)=true then t.dropWhile mw else c::t;by_cases a:iW (G c)=true
    · rw[ge a,aQ (by unfold mw;simpa using a)]
    rw[gc a,aX (by unfold mw;simpa using a)]
theorem Hl(l:O)(w:H)(hl:l.length<=1024000000):bP prog 35 #[.string (E l),.func (Fn.func 34) #[] #[]] w (S (trimB mw l)):=by
  rw[show trimB mw l=GI (l.dropWhile mw)from rfl];obtain⟨L,hL⟩:=V (l.dropWhile mw)
  have ZF:L.length<=l.length:=by
    obtain⟨a,ha⟩:=jW mw l;have:=congrArg List.length ha;rw[ae,<-hL]at this;omega
  rw[<-hL];have HL:=F hL;clear hL;go_enter func35,ntmps35;go_wp2_with fail
  go_loopw [0] (λv wr=>∃t:O,v=.string (E t)/\t.length<=1024000000/\Hid (L=t.dropWhile mw)/\w=wr) (λv _=>Dd v)
  exact⟨l,rfl,hl,HL.o,rfl⟩
  obtain⟨t,rfl,q,p,rfl⟩:=hrel;obtain⟨s,d⟩:=V (E t);have k:s.size=t.length:=by rw[d,aF]
  have f:s.toList=t:=by rw[d,aB]
  by_cases g:t=[]
  · have he:s.toList=[]:=by rw[f,g]
    have y:s.toList.isEmpty=true:=by rw[he];rfl
    have hLn:L=[]:=by rw[p.o,g];rfl
    rw[<-d];have P:=F (show s=E (GI L) by rw[d,g,hLn];rfl);clear p f g d k;go_wp2_with fail;obtain⟨w2,n⟩:=V (w);have HW:=F n;rw[<-n];clear n
    go_loopw [0] (λv wr=>v=.string s/\w2=wr) (λv _=>Dd v)
    exact⟨rfl,rfl⟩
    obtain⟨rfl,rfl⟩:=hrel;go_wp2_with fail;go_ret;exact⟨by rw[P.o];rfl,HW.o⟩
  have he:¬s.toList=[]:=by rw[f];exact g
  have y:s.toList.isEmpty=false:=by simpa using he
  have hpos:0<t.length:=eo.mpr g;have Nd:0<s.size:=M0;have X:((s[0]'Nd).toNat:Int)=G t[0]:=cy d Nd hpos;have c:=a0o hpos;have hex:s.extract 1 s.size=E (t.drop 1):=by rw[d];exact gn t 1 _ (aF t)
  obtain⟨N,B⟩:=V (s.size);have iP:s.size=N:=B.symm;rw[iP]at hex Nd;have hNi:(1:Int)<=N:=M0;have h0i:(0:Int)<N:=M0;have hNt:N=t.length:=M0;rw[<-d];obtain⟨u,C⟩:=V (G t[0]);rw[<-C]at X c;by_cases x:iW u=true
  · rw[ge x]at c
    have z:=fo (∀W,bP prog 34 #[.int .u8 u] W (.bool true)) (λW=>by have h:=fh u W;rw[x]at h;exact h);have i:L=(t.drop 1).dropWhile mw:=by rw[p.o,c]
    have j:(t.drop 1).length+1=N/\N<=1024000000:=by rw[aj];omega
    generalize t.drop 1=r at i j hex;have TD:=F i;have K:=F j;clear i j;clear p c C f g d k B hpos hNt q
    go_wp2_with(go_at_call 34;refine(z.o _).e ?_)
    go_roundw
    exact⟨r,rfl,by have:=K.o;omega,TD.o,by first|rfl|trivial⟩
    case measure =>
      have:=K.o;show(E r).size<s.size;rw[aF,iP];omega
  rw[gc x]at c;have z:=fo (∀W,bP prog 34 #[.int .u8 u] W (.bool false)) (λW=>by have h:=fh u W;rw[(b5w _).mp x]at h;exact h);have Q:L=t:=p.o.trans c;obtain⟨TH,Hw,HT⟩:=cZ (show GI L=GI t by rw[Q]) d q;clear p c C f g k B hpos hNt q hex d Q HL
  go_wp2_with(go_at_call 34;refine(z.o _).m ?_;rintro e w3⟨rfl,D⟩;subst D)
  obtain⟨w2,n⟩:=V (w3);have HW:=F n;rw[<-n];clear n
  go_loopw [0] (λv wr=>∃t:O,v=.string (E t)/\t.length<=1024000000/\Hid (GI L=GI t)/\w2=wr) (λv _=>Dd v)
  exact⟨t,by rw[Hw.o],HT.o,TH.o,rfl⟩
  clear HT TH Hw X iP hNi h0i Nd he y x z;obtain⟨t,rfl,q,p,rfl⟩:=hrel;obtain⟨s,d⟩:=V (E t);have k:s.size=t.length:=by rw[d,aF]
  have f:s.toList=t:=by rw[d,aB]
  by_cases g:t=[]
  · have he:s.toList=[]:=by rw[f,g]
    have y:s.toList.isEmpty=true:=by rw[he];rfl
    rw[<-d];have P:=F (show s=E (GI L) by rw[d,p.o,g];rfl);clear p f g d k;go_wp2_with fail;go_ret;exact⟨by rw[P.o];rfl,HW.o⟩
  have he:¬s.toList=[]:=by rw[f];exact g
  have y:s.toList.isEmpty=false:=by simpa using he
  have hpos:0<t.length:=eo.mpr g;obtain⟨M,hM⟩:∃M,t.length=M+1:=⟨t.length-1,M0⟩;have R:M<s.size:=M0;have X:((s[M]'R).toNat:Int)=G (t[M]' M0):=cy d R M0;have c:=a5g hM;have hex:s.extract 0 M=E (t.take M):=by rw[d];exact nY t M
  obtain⟨N,B⟩:=V (s.size);have iP:s.size=N:=B.symm;have T:N=M+1:=M0;have hMN:M<N:=M0;have hwr:IntKind.i64.wrap ((N:Int)-1)=(M:Int):=by rw[show(N:Int)-1=(M:Int) by omega];exact gS _ M0
  have hMi:(M:Int)<N:=M0;have Z1:(M:Int)<=N:=M0;rw[<-d];obtain⟨u,C⟩:=V (G (t[M]' M0));rw[<-C]at X c;by_cases x:iW u=true
  · rw[ge x]at c
    have z:=fo (∀W,bP prog 34 #[.int .u8 u] W (.bool true)) (λW=>by have h:=fh u W;rw[x]at h;exact h);have i:GI L=GI (t.take M):=by rw[p.o,c]
    have j:(t.take M).length=M/\M<N/\N<=1024000001:=by rw[aD];omega
    generalize t.take M=r at i j hex;have TD:=F i;have K:=F j;clear i j;clear p c C f g d k B hpos q T hM
    go_wp2_with(go_at_call 34;refine(z.o _).e ?_)
    go_roundw
    exact⟨r,rfl,by have:=K.o;omega,TD.o,by first|rfl|trivial⟩
    case measure =>
      have:=K.o;show(E r).size<s.size;rw[aF,iP];omega
  rw[gc x]at c;have z:=fo (∀W,bP prog 34 #[.int .u8 u] W (.bool false)) (λW=>by have h:=fh u W;rw[(b5w _).mp x]at h;exact h);have P:=F (show s=E (GI L) by rw[d,p.o,c]);clear p c C f g d k B hpos q T hM hex
  go_wp2_with(go_at_call 34;refine(z.o _).e ?_)
  go_ret;exact⟨by rw[P.o];rfl,HW.o⟩
theorem Mv(l:O)(w:H)(h:l.length<=1024000000):bP prog 13 #[.string (E l)] w (S (trimB mw l)):=by
  have f:=F<|λW=>Hl l W h;obtain⟨s,c⟩:=V (E l);obtain⟨t,g⟩:=ey (E (trimB mw l));have a:=fo (∀W,bP prog 35 #[.string s,.func (Fn.func 34) #[] #[]] W (.string t)) (by rw[c,g.o];exact f.o);rw[<-c];clear c f;go_enter func13,ntmps13;go_wp2_with fail;refine(a.o _).e ?_;go_wp2_with fail;go_ret;exact⟨by rw[g.o];rfl,rfl⟩
theorem uQ{s:O}(h:s.length<6):qA s=s:=by unfold qA;rw[ge (.inl h)]
theorem Wx(u:O):Lib.trimSuffix u [59]=if Lib.hasSuffix u [59]=true then u.dropLast else u:=by
  unfold Lib.trimSuffix
  split
  · rw[iN];rfl
  rfl
theorem xX{s:O}(h:6<=s.length):qA s=if fG (s.drop (s.length-6))=b64/\Lib.hasSuffix (fN (λx=>decide (x=32)) (s.take (s.length-6))) [59]=true then Lib.trimSuffix (fN (λx=>decide (x=32)) (s.take (s.length-6))) [59]else s:=by
  unfold qA;by_cases Y:fG (s.drop (s.length-6))=b64
  · rw[gc (by rintro(I|I);(·omega);exact I Y)]
    by_cases I:Lib.hasSuffix (fN (λx=>decide (x=32)) (s.take (s.length-6))) [59]=true
    · rw[ge I,ge ⟨Y,I⟩,Wx,ge I]
    rw[gc I,gc (λa=>I a.2)]
  rw[ge (.inr Y),gc (λa=>Y a.1)]
theorem NW(l:O)(w:H)(hl:l.length<=1024000000):bF prog 128 #[.string (E l)] w (S (qA l)):=by
  obtain⟨s,f⟩:=V (E l);have y:s.size=l.length:=by rw[f,aF]
  by_cases Q:l.length<6
  · rw[uQ Q,show S l=.string s by rw[f],<-f]
    obtain⟨N,t⟩:=V (s.size);have iP:s.size=N:=t.symm;obtain⟨K,hK⟩:=V ((N:Int)-6:Int);have hneg:K<0:=M0;have B:IntKind.i64.wrap ((N:Int)-6)=K:=by rw[hK];exact gS _ M0
    clear f y hK t Q hl;go_enter func128,ntmps128;go_wp2_with fail;go_ret;exact⟨rfl,gT _ _⟩
  obtain⟨R,i⟩:=V (qA l);rw[<-i,<-f];rw[xX M0]at i;obtain⟨M,hM⟩:∃M,l.length=M+6:=⟨l.length-6,M0⟩;rw[show l.length-6=M by omega]at i;have B:IntKind.i64.wrap ((s.size:Int)-6)=(M:Int):=by rw[show(s.size:Int)-6=(M:Int) by omega];exact gS _ M0
  have pT:s.extract M s.size=E (l.drop M):=by rw[f];exact gn l M _ (aF l)
  have n9:s.extract 0 M=E (l.take M):=by rw[f];exact nY l M
  obtain⟨db,v,tb,z,lb,k⟩:=ax (E (l.drop M)) (E (l.take M)) (E (fG (l.drop M)));have n:=λW=>qD (l.drop M) W (am (by rw[aj];omega) (show 1024000000<=maxLen by decide));obtain⟨u,hu⟩:=V (fN (λx=>decide (x=32)) (l.take M));have Nf:u.length<=1024000000:=by rw[hu];exact am (b6y _ _) (by rw[aD];omega)
  obtain⟨ub,p⟩:=V (E u);have g:=λW=>DY (l.take M) W (by rw[aD];omega);rw[<-v]at pT n;rw[<-z]at n9 g;rw[<-hu,show S u=.string ub by rw[p]]at g;rw[<-hu]at i;have a:=λW=>zU u [59] W Nf;rw[<-p]at a;have T:(lb.toList == [98,97,115,101,54,52])=decide (fG (l.drop M)=b64):=by rw[k,aB,jB];rfl
  obtain⟨q1,r⟩:=V (decide (fG (l.drop M)=b64));rw[<-r]at T;obtain⟨J,D⟩:=V (Lib.hasSuffix u [59]);rw[<-D]at a;obtain⟨cb,j⟩:=V (E (Lib.trimSuffix u [59]));rw[show S (Lib.trimSuffix u [59])=.string cb by rw[j]]at a;obtain⟨P,TK,xL⟩:=cZ (show ∀W,bF prog 19 #[.string db] W (.string lb)from by rw[k];exact n) (show ∀W,bF prog 89 #[.string tb,.string ⟨#[32]⟩] W (.string ub)from g) (show ∀W,bP prog 171 #[.string ub,.string ⟨#[59]⟩] W (.tuple #[.string cb,.bool J])from a)
  have c:=F (show q1=true->J=true->S R=.string cb by
    intro d a2;rw[d,eq_comm,gx]at r;rw[D]at a2;rw[i,ge ⟨r,a2⟩,j])
  have C:=F (show q1=false\/J=false->S R=.string s by
    intro d;rw[i,gc,f];rintro⟨b1,G⟩;rcases d with d|d
    · rw[r,gz]at d;exact d b1
    rw[D,G]at d;cases d)
  obtain⟨N,t⟩:=V (s.size);have iP:s.size=N:=t.symm;have hMN:M<=N:=M0;have hMi:(M:Int)<=N:=M0;have hM0:¬(M:Int)<0:=M0;rw[iP]at B pT;clear f y hM i v z k n hu Nf p g a r D j Q hl t;cases q1 with
  |false =>
    have q:=F<|C.o (.inl rfl);clear C c;go_enter func128,ntmps128
    go_wp2_with(go_at_call 19;refine(P.o _).k λw2 h=>?_)
    go_ret;exact⟨by rw[q.o];rfl,h.o⟩
  |true =>
    cases J with
    |false =>
      have q:=F<|C.o (.inr rfl);clear C c;go_enter func128,ntmps128
      go_wp2_with(first|(go_at_call 19;refine(P.o _).k λw2 h=>?_)|(go_at_call 89;refine(TK.o _).k λw3 L=>?_)|(go_at_call 171;refine(xL.o _).e ?_))
      go_ret;exact⟨by rw[q.o];rfl,h.o.trans (L.o.m h.o.size)⟩
    |true =>
      have q:=F<|c.o rfl rfl;clear C c;go_enter func128,ntmps128
      go_wp2_with(first|(go_at_call 19;refine(P.o _).k λw2 h=>?_)|(go_at_call 89;refine(TK.o _).k λw3 L=>?_)|(go_at_call 171;refine(xL.o _).e ?_))
      go_ret;exact⟨by rw[q.o];rfl,h.o.trans (L.o.m h.o.size)⟩

def z7:Option O->Ending
 |none=>.returned (.tuple #[.string ⟨#[]⟩,.bool false])
 |some e=>.returned (.tuple #[S e,.bool true])
theorem OD(c:UInt8)(l:O)(w:H)(d:l.length<=1024000000)(a:Env w):bF prog 72 #[.string (E l),.string (E [c])] w (.tuple #[S (bQ c l).1,S (bQ c l).2.1,.bool (bQ c l).2.2]):=by
 have h:=gK l [c] w d a;rw[yI]at h;exact h
theorem Cr(l:O)(w:H)(hl:l.length<=1024000000)(hE:Env w):Calls prog 130 #[.string (E l)] w λe w'=>e=z7 (KR l)/\r7 w w':=by
 obtain⟨R,d⟩:=V (KR l);rw[<-d];unfold KR at d;obtain⟨s,hs⟩:=V (E l);have J:=λW=>MD l W hl;obtain⟨t,ht⟩:=V (trimB GX l);have htl:t.length<=1024000000:=by rw[ht];exact am (zl _ _) hl
 rw[<-ht]at d J;have u:=λW (hW:Env W)=>OD 47 t W htl hW;have T:=fD 47 t;obtain⟨hd,z,tl,r,fd,yA⟩:=ax ((bQ 47 t).1) ((bQ 47 t).2.1) ((bQ 47 t).2.2);rw[<-z,<-r]at T;rw[<-z,<-r,<-yA]at u d;clear z r yA ht;have h:hd.length<=1024000000:=M0;have x:=λW (hW:Env W)=>OD 59 tl W M0 hW;have a37:=fD 59 tl;obtain⟨v,hv,v2,hv2,v3,hv3⟩:=ax ((bQ 59 tl).1) ((bQ 59 tl).2.1) ((bQ 59 tl).2.2);rw[<-hv]at a37;rw[<-hv,<-hv2,<-hv3]at x;rw[<-hv]at d;clear hv hv2 hv3;have L:=λW=>MG v W M0;obtain⟨y,hy⟩:=V (fN GX v);have n:y.length<=1024000000:=by rw[hy];exact am (b6y _ _) M0
 rw[<-hy]at d L;clear hy;have B:=λW=>zk hd W h;have C:=λW=>zk y W n;obtain⟨q1,hq1,q2,hq2⟩:=ac (DW hd) (DW y);rw[<-hq1]at B d;rw[<-hq2]at C d;clear hq1 hq2;have hl1:=λW=>qD hd W (am h P8);have hl2:=λW=>qD y W (am n P8);obtain⟨tb,K,U,XH,lb,D,vb,N,yb,k,ha,g,ya,j,u1,i⟩:=b2 (E t) (E hd) (E tl) (E v) (E y) (E (fG hd)) (E (fG y)) (E (fG hd++[47]));obtain⟨u2,M⟩:=V (E (fG hd++[47]++fG y));have hza:ha.size<=1024000000:=by rw[g,aF];unfold fG;rw[ay];exact h
 have hzy:ya.size<=1024000000:=by rw[j,aF];unfold fG;rw[ay];exact n
 have hzu:u1.size<=1024000001:=by rw[i,aF,ae];unfold fG;rw[ay];show hd.length+1<=_;omega
 have e1:ha++⟨#[47]⟩=u1:=by rw[g,i];exact mm (fG hd) [47]
 have e2:u1++ya=u2:=by rw[i,M,j];exact mm _ _
 obtain⟨f,rE,Ei,TK,Tz,SZ,J5,HL2⟩:=er (show ∀W,bF prog 175 #[.string s,.string ⟨#[9,10,13,32]⟩] W (.string tb)from by rw[hs,K];exact J) (show ∀W,Env W->bF prog 72 #[.string tb,.string ⟨#[47]⟩] W (.tuple #[.string U,.string lb,.bool fd])from by rw[K,XH,D];exact u) (show ∀W,Env W->bF prog 72 #[.string lb,.string ⟨#[59]⟩] W (.tuple #[.string vb,S v2,.bool v3])from by rw[D,N];exact x) (show ∀W,bF prog 89 #[.string vb,.string ⟨#[9,10,13,32]⟩] W (.string yb)from by rw[N,k];exact L) (show ∀W,bP prog 176 #[.string U] W (.bool q1)from by rw[XH];exact B) (show ∀W,bP prog 176 #[.string yb] W (.bool q2)from by rw[k];exact C) (show ∀W,bF prog 19 #[.string U] W (.string ha)from by rw[XH,g];exact hl1) (show ∀W,bF prog 19 #[.string yb] W (.string ya)from by rw[k,j];exact hl2);obtain⟨HU,HR,p⟩:=cZ M d hE;rw[<-hs];clear hs J htl u T h x a37 L n B C hl1 hl2 K XH D N k g j i M d hl hE;cases fd with
 |false =>
  have q:=F (show R=none by rw[HR.o];rfl);go_enter func130,ntmps130
  go_wp2_with(first|(go_at_call 175;refine(f.o _).k λw2 a=>?_)|(go_at_call 72;(with_reducible refine(rE.o _ (p.o.below a.o)).m ?_);rintro e w3⟨rfl,U⟩;have c:=F<|dw a.o U;clear U))
  go_ret2
  exact⟨by rw[q.o];rfl,c.o⟩
 |true =>
  go_enter func130,ntmps130;have TH:=fo (R=if q1=true/\q2=true then some (fG hd++[47]++fG y)else none) HR.o;cases q1 with
  |false =>
   have q:=F (show R=none by rw[TH.o];rfl)
   go_wp2_with(first|(go_at_call 175;refine(f.o _).k λw2 a=>?_)|(go_at_call 72;(with_reducible refine(rE.o _ (p.o.below a.o)).m ?_);rintro e w3⟨rfl,U⟩;have c:=F<|dw a.o U;clear U)|(go_at_call 72;(with_reducible refine(Ei.o _ (p.o.below c.o)).m ?_);rintro e w4⟨rfl,U⟩;have P:=F<|dw c.o U;clear U)|(go_at_call 89;refine(TK.o _).k λw5 U=>?_;have Q:=F<|dw P.o U.o;clear U)|(go_at_call 176;(with_reducible refine(Tz.o _).m ?_);rintro e w6⟨rfl,hw⟩;subst w6))
   go_ret2
   exact⟨by rw[q.o];rfl,Q.o⟩
  |true =>
   cases q2 with
   |false =>
    have q:=F (show R=none by rw[TH.o];rfl)
    go_wp2_with(first|(go_at_call 175;refine(f.o _).k λw2 a=>?_)|(go_at_call 72;(with_reducible refine(rE.o _ (p.o.below a.o)).m ?_);rintro e w3⟨rfl,U⟩;have c:=F<|dw a.o U;clear U)|(go_at_call 72;(with_reducible refine(Ei.o _ (p.o.below c.o)).m ?_);rintro e w4⟨rfl,U⟩;have P:=F<|dw c.o U;clear U)|(go_at_call 89;refine(TK.o _).k λw5 U=>?_;have Q:=F<|dw P.o U.o;clear U)|(go_at_call 176;(with_reducible refine(Tz.o _).m ?_);rintro e w6⟨rfl,hw⟩;subst w6)|(go_at_call 176;(with_reducible refine(SZ.o _).m ?_);rintro e w7⟨rfl,hw⟩;subst w7))
    go_ret2
    exact⟨by rw[q.o];rfl,Q.o⟩
   |true =>
    have n1:¬ 9223372036854775807<ha.size+1:=M0;have n2:¬ 9223372036854775807<u1.size+ya.size:=M0;have q:=F (show z7 R=.returned (.tuple #[.string u2,.bool true]) by rw[TH.o,HU.o];rfl)
    go_wp2_with(first|(go_at_call 175;refine(f.o _).k λw2 a=>?_)|(go_at_call 72;(with_reducible refine(rE.o _ (p.o.below a.o)).m ?_);rintro e w3⟨rfl,U⟩;have c:=F<|dw a.o U;clear U)|(go_at_call 72;(with_reducible refine(Ei.o _ (p.o.below c.o)).m ?_);rintro e w4⟨rfl,U⟩;have P:=F<|dw c.o U;clear U)|(go_at_call 89;refine(TK.o _).k λw5 U=>?_;have Q:=F<|dw P.o U.o;clear U)|(go_at_call 176;(with_reducible refine(Tz.o _).m ?_);rintro e w6⟨rfl,hw⟩;subst w6)|(go_at_call 176;(with_reducible refine(SZ.o _).m ?_);rintro e w7⟨rfl,hw⟩;subst w7)|(go_at_call 19;(with_reducible refine(J5.o _).m ?_);rintro e w8⟨rfl,U⟩;have B8:=F<|dw Q.o U;clear U)|(go_at_call 19;(with_reducible refine(HL2.o _).m ?_);rintro e w9⟨rfl,U⟩;have B9:=F<|dw B8.o U;clear U))
    go_ret2
    exact⟨by rw[q.o];rfl,B9.o⟩

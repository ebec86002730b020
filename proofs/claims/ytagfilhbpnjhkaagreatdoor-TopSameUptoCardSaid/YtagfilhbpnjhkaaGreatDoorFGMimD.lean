import Derived.Test.YtagfilhbpnjhkaaGreatDoorFGMimA
import Derived.Test.YtagfilhbpnjhkaaGreatDoorFGRdsF
set_option maxRecDepth 10000
set_option maxHeartbeats 0
namespace Go.Proofs.Q
open Tryz Go.RowKit
theorem Kz(s p:O):Lib.trimPrefix s p=b76 s p:=rfl
theorem OC(s p:O):(b76 s p).length<=s.length:=by
 unfold b76
 split
 ·rw[aj];omega
 omega
theorem Kp(s:O):(qA s).length<=s.length:=by
 by_cases h:s.length<6
 ·rw[uQ h];omega
 rw[xX M0]
 split
 ·refine am (DZ _ _) (am (b6y _ _) ?_)
  rw[aD];omega
 omega
theorem LM(u:Url)(A:Z)(w:H)(h:zK u)(hs:Sl w.heap.size w A (u.path.map S))(hl:(dA u false).length<=1000000000)(hE:Env w)(hN:NE w) :
  Calls prog 81 #[.agg (ai A u)] w λe w'=>e=z7 (BY u)/\r7 w w':=by
 have MZ:=F<|λW (U:r7 w W)=>rr u (ai A u) A false W (lV A h.ok) ((hs.below U).more U.size) h.sm (hN.below U);have H8:=F h.six;obtain⟨R,c⟩:=V (BY u);rw[<-c];unfold BY at c;obtain⟨s,l⟩:=V (E u.aJ);have ka:=F (show(ai A u)[0]?= some (.string s) by rw[l];exact(ry A u h.six).aJ);obtain⟨q,D⟩:=V (decide (u.aJ=qI));have hq1:(s.toList == [100,97,116,97])=q:=by rw[l,aB,jB,D];rfl
 have j:(s.toList=[100,97,116,97]) ↔ q=true:=by rw[l,aB,D,gx];exact Iff.rfl
 obtain⟨t,ht⟩:=V (dA u false);rw[<-ht]at MZ hl c;obtain⟨tb,n⟩:=V (E t);have zG:=fo (∀W,r7 w W->bF prog 11 #[.agg (ai A u),.bool false] W (.string tb)) (by rw[n];exact MZ.o);have J:=F hE;clear MZ;have C:=F<|CB.new w 34 (ai A u);have v:=F<|(gT w.heap.size w).alloc (ag _) (.cells (ai A u) 34);obtain⟨w1,K⟩:=ey (w.alloc (.cells (ai A u) 34));rw[<-K.o]at C v;clear h hs hE hN l ht;cases q with
 |false =>
  have hn:¬s.toList=[100,97,116,97]:=λe=>by have:=j.mp e;cases this
  have HN:=F (show R=none by rw[c,gc (by rw[eq_comm,gz]at D;exact D)]);clear D j c hl n;go_enter func81,ntmps81
  go_upto_region 1 with fail
  rw[<-K.o]
  go_wp2_with((with_reducible apply bS);refine kA rfl 10 rfl w.heap.size 34 (ai A u) C.o 0 (.string s) ka.o rfl ?_)
  go_ret2
  exact⟨by rw[HN.o];rfl,v.o⟩
 |true =>
  rw[ge (by rw[eq_comm,gx]at D;exact D)]at c;have hp:s.toList=[100,97,116,97]:=j.mpr rfl;clear D j;have N:=λW (hW:Env W)=>OD 44 t W M0 hW;have hcl:=fD 44 t;obtain⟨hd,i,tl,htl,fd,yA⟩:=ax ((bQ 44 t).1) ((bQ 44 t).2.1) ((bQ 44 t).2.2);rw[<-i,<-htl]at hcl;rw[<-i,<-htl,<-yA]at N;rw[<-i,<-yA]at c;clear i htl yA;have p:=λW=>Sm hd (qI++[58]) W;rw[Kz]at p;have hkl:=OC hd (qI++[58]);generalize b76 hd (qI++[58])=k at p hkl c;have hst:=λW=>Mv k W M0;have hml:=zl mw k;generalize trimB mw k=m at hst hml c;have M:=λW=>NW m W M0;have hzl:=Kp m;generalize qA m=z at M hzl c;have rH:=λW=>mE z [59] W;obtain⟨q3,hq3,y,hy⟩:=ac (Lib.hasPrefix z [59]) (if Lib.hasPrefix z [59]=true then mP++z else z)
  have hyl:y.length<=1024000000:=by
   rw[hy]
   split
   ·rw[ae]
    have:mP.length=10:=rfl;omega
   omega
  have L:R=if fd=true then some ((KR y).getD mP)else none:=by rw[c,hy];rfl
  rw[<-hq3]at rH hy;have P:=λW (hW:Env W)=>Cr y W hyl hW;generalize KR y=E' at P L;clear c hq3;obtain⟨U,XH,kb,Q,mb,T,zb,a,yb,r⟩:=bd (E hd) (E k) (E m) (E z) (E y);obtain⟨rE,TJ,HST,xt,tS,f,HR⟩:=ep (show ∀W,Env W->bF prog 72 #[.string tb,.string ⟨#[44]⟩] W (.tuple #[.string U,S tl,.bool fd])from by rw[n,XH];exact N) (show ∀W,bP prog 129 #[.string U,.string ⟨#[100,97,116,97,58]⟩] W (.string kb)from by rw[XH,Q];exact p) (show ∀W,bP prog 13 #[.string kb] W (.string mb)from by rw[Q,T];exact hst) (show ∀W,bF prog 128 #[.string mb] W (.string zb)from by rw[T,a];exact M) (show ∀W,bP prog 83 #[.string zb,.string ⟨#[59]⟩] W (.bool q3)from by rw[a];exact rH) (show ∀W,Env W->Calls prog 130 #[.string yb] W λe w'=>e=z7 E'/\r7 W w' from by rw[r];exact P) L
  have t4:q3=true->(⟨#[116,101,120,116,47,112,108,97,105,110]⟩:ByteArray)++zb=yb:=λe=>by
   rw[r,a,hy,ge e];exact mm mP z
  have nz:¬ 9223372036854775807<10+zb.size:=by rw[a,aF];omega
  have hsame:q3=false->zb=yb:=λe=>by
   rw[r,a,hy,gc (by rw[e];simp)]
  clear N hcl p hkl hst hml M hzl rH hyl L P XH Q T a r hy n hl;cases fd with
  |false =>
   have HN:=fo (R=none) HR.o;clear t4 hsame;go_enter func81,ntmps81
   go_upto_region 1 with fail
   rw[<-K.o]
   go_wp2_with(first|((with_reducible apply bS);first|refine kA rfl 10 rfl w.heap.size 34 (ai A u) C.o 0 (.string s) ka.o rfl ?_|refine cR r5 1 rfl w.heap.size A u H8.o rfl C.o ?_)|(go_at_call 11;refine(zG.o _ v.o).k λw2 U=>?_;have B:=F<|dw v.o U.o;clear U)|(go_at_call 72;refine(rE.o _ (J.o.below B.o)).k λw3 U=>?_;have B3:=F<|dw B.o U.o;clear U))
   go_ret2
   exact⟨by rw[HN.o];rfl,B3.o⟩
  |true =>
   go_enter func81,ntmps81
   go_upto_region 1 with fail
   rw[<-K.o];have g:=fo (R=some (E'.getD mP)) HR.o;cases q3 with
   |false =>
    obtain rfl:=hsame rfl;clear t4 hsame
    go_upto_region 9 with(first|((with_reducible apply bS);first|refine kA rfl 10 rfl w.heap.size 34 (ai A u) C.o 0 (.string s) ka.o rfl ?_|refine cR r5 1 rfl w.heap.size A u H8.o rfl C.o ?_)|(go_at_call 11;refine(zG.o _ v.o).k λw2 U=>?_;have B:=F<|dw v.o U.o;clear U)|(go_at_call 72;refine(rE.o _ (J.o.below B.o)).k λw3 U=>?_;have B3:=F<|dw B.o U.o;clear U)|(go_at_call 129;refine(TJ.o _).e ?_)|(go_at_call 13;refine(HST.o _).e ?_)|(go_at_call 128;refine(xt.o _).k λw6 U=>?_;have d:=F<|dw B3.o U.o;clear U)|(go_at_call 83;refine(tS.o _).e ?_))
    cases E' with
    |none =>
     go_wp2_with(go_at_call 130;refine(f.o _ (J.o.below d.o)).k λw8 U=>?_;have B8:=F<|dw d.o U.o;clear U;dsimp only[z7])
     go_ret2
     exact⟨by rw[g.o];rfl,B8.o⟩
    |some x =>
     go_wp2_with(go_at_call 130;refine(f.o _ (J.o.below d.o)).k λw8 U=>?_;have B8:=F<|dw d.o U.o;clear U;dsimp only[z7])
     go_ret2
     exact⟨by rw[g.o];rfl,B8.o⟩
   |true =>
    have b14:=t4 rfl;clear t4 hsame
    go_upto_region 9 with(first|((with_reducible apply bS);first|refine kA rfl 10 rfl w.heap.size 34 (ai A u) C.o 0 (.string s) ka.o rfl ?_|refine cR r5 1 rfl w.heap.size A u H8.o rfl C.o ?_)|(go_at_call 11;refine(zG.o _ v.o).k λw2 U=>?_;have B:=F<|dw v.o U.o;clear U)|(go_at_call 72;refine(rE.o _ (J.o.below B.o)).k λw3 U=>?_;have B3:=F<|dw B.o U.o;clear U)|(go_at_call 129;refine(TJ.o _).e ?_)|(go_at_call 13;refine(HST.o _).e ?_)|(go_at_call 128;refine(xt.o _).k λw6 U=>?_;have d:=F<|dw B3.o U.o;clear U)|(go_at_call 83;refine(tS.o _).e ?_))
    cases E' with
    |none =>
     go_wp2_with(go_at_call 130;refine(f.o _ (J.o.below d.o)).k λw8 U=>?_;have B8:=F<|dw d.o U.o;clear U;dsimp only[z7])
     go_ret2
     exact⟨by rw[g.o];rfl,B8.o⟩
    |some x =>
     go_wp2_with(go_at_call 130;refine(f.o _ (J.o.below d.o)).k λw8 U=>?_;have B8:=F<|dw d.o U.o;clear U;dsimp only[z7])
     go_ret2
     exact⟨by rw[g.o];rfl,B8.o⟩

def up:O->O->List O
 |cur,[]=>if cur=[]then []else [cur]
 |cur,x::r=>if iW (G x)=true then(if cur=[]then up [] r else cur::up [] r)else up (cur++[x]) r
def EZ(s:O):List O:=up [] s
theorem Fa:∀(s cur:O),(∀x∈s,iW (G x)=false)->cur++s ≠ []->up cur s=[cur++s]
 | [],cur,_,h=>by
  rw[up,gc (by simpa using h),aV]
 |x::r,cur,a,h=>by
  rw[up,gc (by rw[a x fA];simp),Fa r (cur++[x]) (λy hy=>a y (cN _ hy)) Oc];simp
theorem va:∀(s cur:O),(cur ≠ []\/∃x∈s,iW (G x)=false)->1<=(up cur s).length
 | [],cur,h=>by
  rcases h with h|⟨x,X,_⟩
  ·rw[up,gc h];exact ag _
  cases X
 |x::r,cur,h=>by
  rw[up]
  split
  ·next U =>
   split
   ·next a =>
    refine va r [] (.inr ?_);rcases h with h|⟨y,hy,hp⟩
    ·exact absurd a h
    rcases aK.mp hy with rfl|hy
    ·rw[U]at hp;cases hp
    exact⟨y,hy,hp⟩
   rw[cz];omega
  exact va r (cur++[x]) (.inl Oc)
theorem Fc:∀(s cur:O) (c:UInt8),iW (G c)=true->∀t:O,(cur ≠ []\/∃x∈s,iW (G x)=false)->(∃x∈t,iW (G x)=false)->2<=(up cur (s++c::t)).length
 | [],cur,c,d,t,h,a=>by
  have Y:cur ≠ []:=by
   rcases h with h|⟨x,X,_⟩
   ·exact h
   cases X
  rw[f9,up,ge d,gc Y,cz];have:=va t [] (.inr a);omega
 |x::r,cur,c,d,t,h,a=>by
  rw[dE,up]
  split
  ·next U =>
   split
   ·next e =>
    refine Fc r [] c d t (.inr ?_) a;rcases h with h|⟨y,hy,hp⟩
    ·exact absurd e h
    rcases aK.mp hy with rfl|hy
    ·rw[U]at hp;cases hp
    exact⟨y,hy,hp⟩
   rw[cz];have:=va (r++c::t) [] (.inr (by obtain⟨y,hy,hp⟩:=a;exact⟨y,by simp[hy],hp⟩));omega
  exact Fc r (cur++[x]) c d t (.inl Oc) a
theorem OX(x:UInt8):mw x=iW (G x):=ku (P:=λx=>mw x=iW (G x)) (by decide +kernel) x
theorem WA{p:UInt8->Bool}{s:O}(h:fN p s=s):s=[]\/∃a c,s=a++[c]/\p c=false:=by
 rcases Fe s with d|⟨a,c,d⟩
 ·exact .inl d
 refine .inr ⟨a,c,by simpa using d,?_⟩;have e:s=a++[c]:=by simpa using d
 subst e;cases hp:p c with
 |false=>rfl
 |true =>
  unfold fN at h;rw[jK,Fd,a4p,aQ hp]at h;have I:=congrArg List.length h;rw[fc,ae,dq]at I;have f:=(ce (l:=a.reverse) p).length_le;rw[fc]at f;omega
theorem UB{p:UInt8->Bool}{s:O}(h:trimB p s=s):s=[]\/((∃c r,s=c::r/\p c=false)/\∃a c,s=a++[c]/\p c=false):=by
 cases s with
 |nil=>exact .inl rfl
 |cons c r =>
  right
  have e:p c=false:=by
   cases hp:p c with
   |false=>rfl
   |true =>
    unfold trimB at h;rw[aQ hp]at h;have I:=congrArg List.length h;have h3:=b6y p (r.dropWhile p);have h4:=(ce (l:=r) p).length_le;rw[cz]at I;omega
  refine⟨⟨c,r,rfl,e⟩,?_⟩
  have f:fN p (c::r)=c::r:=by
   unfold trimB at h;rw[aX (by rw[e];simp)]at h;exact h
  rcases WA f with d|d
  ·cases d
  exact d
theorem PF{s:O}(j:s ≠ [])(Y:Lib.hasPrefix s [44]=false):ti s=(decide ((EZ s).length=1)&&decide (trimB mw s=s) && !(Lib.hasSuffix s [44])):=by
 have U:(s.all λx=>!iW (G x))=(decide ((EZ s).length=1)&&decide (trimB mw s=s)):=by
  rw[bX,f8,gx,gx,dl];constructor
  ·intro h
   have n:∀x∈s,iW (G x)=false:=λx X=>by simpa using h x X
   refine⟨by unfold EZ;rw[Fa s [] n (by simpa using j)];rfl,?_⟩
   have i:s.dropWhile mw=s:=by
    cases s with
    |nil=>rfl
    |cons x r=>rw[aX (by rw[OX,n x fA];simp)]
   unfold trimB;rw[i];rcases Fe s with I|⟨a,c,I⟩
   ·exact absurd I j
   have e:s=a++[c]:=by simpa using I
   rw[e];unfold fN;rw[jK,Fd,a4p,aX (by rw[OX,n c (by rw[e];simp)];simp)];simp
  rintro⟨hw,q⟩ x X;cases hp:iW (G x)with
  |false=>rfl
  |true =>
   exfalso;rcases UB q with I|⟨⟨c,r,i,k⟩,⟨a,d,o,hd⟩⟩
   ·exact j I
   obtain⟨u,v,f⟩:=List.append_of_mem X;rw[OX]at k hd
   have hu:∃y∈u,iW (G y)=false:=by
    cases u with
    |nil =>
     rw[f9,i]at f;injection f with g _
     rw[g,hp]at k;cases k
    |cons y u2 =>
     rw[dE,i]at f;injection f with g _
     exact⟨y,fA,by rw[<-g];exact k⟩
   have t:∃y∈v,iW (G y)=false:=by
    rcases Fe v with m|⟨v2,y,m⟩
    ·rw[m,o]at f
     have g:=q9 f rfl;injection g with l _
     rw[l,hp]at hd;cases hd
    have p:v=v2++[y]:=by simpa using m
    rw[p,o,show u++x::(v2++[y])=(u++x::v2)++[y] by simp]at f;have g:=q9 f rfl;injection g with l _
    exact⟨y,by rw[p];simp,by rw[<-l];exact hd⟩
   have:=Fc u [] x hp v (.inr hu) t;unfold EZ at hw;rw[f]at hw;omega
 unfold ti;rw[U,Y];have I:s.isEmpty=false:=by cases s with|nil=>exact absurd rfl j|cons _ _=>rfl
 rw[I];simp

theorem b5B(p:UInt8->Bool)(a b:O)(h:∀x∈b,p x=true):fN p (a++b)=fN p a:=by
 unfold fN
 have e:((a++b).reverse).dropWhile p=a.reverse.dropWhile p:=by
  rw[jK,a3Y (λx X=>h x (List.mem_reverse.mp X))]
 rw[e]
theorem b5C(p:UInt8->Bool)(a:O)(c:UInt8)(h:p c=false):fN p (a++[c])=a++[c]:=by
 unfold fN;rw[jK,Fd,a4p,aX (by rw[h];simp)];simp
theorem b5T{p:UInt8->Bool}{l:O}{k:Nat}(hk:k<=l.length)(h:∀x∈l.drop k,p x=true)(f:k=0\/∃h:k-1<l.length,p l[k-1]=false):fN p l=l.take k:=by
 have e:l=l.take k++l.drop k:=(cT k l).symm;rw[show fN p l=fN p (l.take k++l.drop k) by rw[<-e],b5B p _ _ h];rcases f with rfl|⟨d,hp⟩
 ·rfl
 by_cases c:k=0
 ·subst c;rfl
 have a:l.take k=l.take (k-1)++[l[k-1]]:=by
  have Y:=aH d;rw[show k-1+1=k by omega]at Y;exact Y
 rw[a,b5C p _ _ hp]
theorem b5F{p:UInt8->Bool}:∀{l:O} {i:Nat},i<=l.length->(∀x∈l.take i,p x=true)->(i=l.length\/∃h:i<l.length,p l[i]=false)->l.dropWhile p=l.drop i
 | [],i,hi,_,_=>Oc
 |x::r,0,_,_,a=>by
  rcases a with h|⟨_,h⟩
  ·simp at h
  rw[aX (by rw[gZ]at h;rw[h];simp)];rfl
 |x::r,i+1,hi,h,a=>by
  rw[aQ (h x Oc)]
  rw[b5F (l:=r) (i:=i) (by simpa using hi) (λy hy=>h y (by simp[hy])) (by
   rcases a with a|⟨Y,I⟩
   ·left;simpa using a
   right;exact⟨by simpa using Y,by simpa using I⟩)]
  rfl
structure b3K (s:O) (c:UInt8) (n:Nat):Prop where
 le:n<=s.length
 no:∀x∈s.take n,x≠c
 at_:n=s.length\/∃h:n<s.length,s[n]=c
theorem b3K.none{s:O}{c:UInt8}(h:b3K s c s.length):bQ c s=(s,[],false) :=
 yk λa=>h.no c (by rw[di];exact a) rfl
theorem b3K.some{s:O}{c:UInt8}{n:Nat}(h:b3K s c n)(d:n<s.length):bQ c s=(s.take n,s.drop (n+1),true):=by
 rcases h.at_ with Y|⟨_,Y⟩
 ·omega
 have e:s=s.take n++c::s.drop (n+1):=by
  rw[<-Y,<-List.drop_eq_getElem_cons d,cT]
 have:=Fj (s.take n) (s.drop (n+1)) (c:=c) (λa=>h.no c a rfl);rw[<-e]at this;exact this
theorem b3K.fst{s:O}{c:UInt8}{n:Nat}(h:b3K s c n):(bQ c s).1=s.take n:=by
 by_cases a:n<s.length
 ·rw[h.some a]
 have:n=s.length:=by have:=h.le;omega
 subst this;rw[h.none,di]
theorem b3K.flag{s:O}{c:UInt8}{n:Nat}(h:b3K s c n):(bQ c s).2.2=decide (n<s.length):=by
 by_cases a:n<s.length
 ·rw[h.some a,gr a]
 have:n=s.length:=by have:=h.le;omega
 subst this;rw[h.none,gh a]
theorem b6E{l:O}{n:Nat}(h:b3K l 44 n){d:O}(hd:44∉d):(bQ 44 (d++l)).1=d++l.take n/\(bQ 44 (d++l)).2.2=decide (n<l.length):=by
 by_cases f:n<l.length
 ·have e:=h.some f
  have g:l=l.take n++44::l.drop (n+1):=by
   rcases h.at_ with Y|⟨_,Y⟩
   ·omega
   rw[<-Y,<-List.drop_eq_getElem_cons f,cT]
  have i:d++l=(d++l.take n)++44::l.drop (n+1):=by rw[bB,<-g]
  have j:(44:UInt8)∉d++l.take n:=by
   intro a;rcases bO.mp a with a|a
   ·exact hd a
   exact h.no 44 a rfl
  rw[i,Fj _ _ j,gr f];exact⟨rfl,rfl⟩
 have:n=l.length:=by have:=h.le;omega
 subst this
 rw[yk (c:=44) (s:=d++l) (λa=>by
  rcases bO.mp a with a|a
  ·exact hd a
  exact h.no 44 (by rw[di];exact a) rfl),di,gh f]
 exact⟨rfl,rfl⟩

theorem b5R(c:Int)(w:H):bP prog 157 #[.int .u8 c] w (.bool (iQ c)):=by
 have h:c<65\/(65<=c/\c<=90)\/(90<c/\c<97)\/(97<=c/\c<=122)\/122<c:=M0;rcases h with h|⟨Y,I⟩|⟨Y,I⟩|⟨Y,I⟩|h
 all_goals
  go_enter func157,ntmps157;go_wp2_with fail
  all_goals
   go_ret;refine⟨eA ?_,rfl⟩;unfold iQ
   first
    |exact(gr (p:=(65<=c/\c<=90)\/(97<=c/\c<=122)) M0).symm
    |exact(gh (p:=(65<=c/\c<=90)\/(97<=c/\c<=122)) M0).symm
    |(rw[gh (p:=(65<=c/\c<=90)\/(97<=c/\c<=122)) M0];simp;omega)
theorem b6J{l:O}{k:Nat}(h:k<l.length):fG (l.take (k+1))=fG (l.take k)++[dK l[k]]:=by
 unfold fG;rw[aH h,eY];rfl
theorem b5k(l:O):(fG l).length=l.length:=ay _
theorem b4M(l:O)(w:H)(hl:l.length<=1024000000):bF prog 111 #[.string (E l)] w (S (fG l)):=by
 obtain⟨i8,L,B,J,K⟩:=info_parts jn;obtain⟨s,z⟩:=V (E l);have q:s.size=l.length:=by rw[z,aF]
 have m:∀k (v:k<s.size) (n:k<l.length),((s[k]'v).toNat:Int)=G l[k]:=λk v n=>cy z v n;rw[<-z];clear z;obtain⟨N,Q⟩:=V (s.size);have iP:s.size=N:=Q.symm;have oP:N<=1024000000:=M0;have iV:=F m;clear m;have M:=F q;clear q hl Q;go_enter func111,ntmps111;go_wp2_with fail
 go_loopw [3,4,5] (λov iv _ wr=>∃(k:Nat),k<=N/\iv=.int .i64 k/\Hid (wr.ownsRow w.heap.size 5 1 ov k (Lib.byteCells (fG (l.take k))))/\Hid (r7 w wr)) (λ_ i _ _=>N-(intOf i).toNat)
 exact⟨0,M0,Oc,F (iZ _ _ _ _),F (gT _ _)⟩
 obtain⟨k,v,rfl,h,HB⟩:=hrel;by_cases hlt:k<N
 ·have mf:k<s.size:=by omega
  have p:k<l.length:=by have:=M.o;omega
  have X:=iV.o k mf p;have d:=b6J p;have hwz:w.heap.size<=wr.heap.size:=HB.o.size;have e:=(dR (fG (l.take k)) (dK l[k])).symm;rw[<-d]at e;have D:=gH l[k]
  have g:(G l[k]<65/\G (dK l[k])=G l[k])\/(65<=G l[k]/\90<G l[k]/\G (dK l[k])=G l[k])\/(65<=G l[k]/\G l[k]<=90/\G (dK l[k])=G l[k]+32):=by
   by_cases Y:65<=G l[k]/\G l[k]<=90
   ·exact .inr (.inr ⟨Y.1,Y.2,Gp Y⟩)
   have:=congrArg G (Gq Y);by_cases I:G l[k]<65
   ·exact .inl ⟨I,this⟩
   exact .inr (.inl ⟨M0,M0,this⟩)
  obtain⟨x,R,y,hy⟩:=ac (G l[k]) (G (dK l[k]));rw[<-R]at X g D;rw[<-hy]at g e;have f:=F e;clear R hy d e;rcases g with⟨Y,I⟩|⟨Y,I,u⟩|⟨Y,I,u⟩
  ·subst I
   go_wp2_with(at_builtin;(refine et rfl 24 26 _ rfl w.heap.size 5 i8 (.int .u8 0) 1 underlying25 L B J K P8 _ _ _ _ rfl h.o (.int .u8 y) rfl rfl M0 P8 M0 ?_);intro v2 T hown2 r a;have j:=F hown2;clear hown2;have c:=F a;clear a)
   go_roundw
   exact⟨k+1,M0,by go_num,F (by rw[<-f.o];exact j.o),F (HB.o.trans c.o)⟩
   exact aa
  ·subst u
   go_wp2_with(at_builtin;(refine et rfl 24 26 _ rfl w.heap.size 5 i8 (.int .u8 0) 1 underlying25 L B J K P8 _ _ _ _ rfl h.o (.int .u8 y) rfl rfl M0 P8 M0 ?_);intro v2 T hown2 r a;have j:=F hown2;clear hown2;have c:=F a;clear a)
   go_roundw
   exact⟨k+1,M0,by go_num,F (by rw[<-f.o];exact j.o),F (HB.o.trans c.o)⟩
   exact aa
  have a1:IntKind.u8.wrap (x-65)=x-65:=IntWalk.u8_in _ M0;have a2:IntKind.u8.wrap (x-65+97)=y:=by rw[u,show x-65+97=x+32 by omega];exact IntWalk.u8_in _ M0
  clear u
  go_wp2_with(at_builtin;(refine et rfl 24 26 _ rfl w.heap.size 5 i8 (.int .u8 0) 1 underlying25 L B J K P8 _ _ _ _ rfl h.o (.int .u8 y) rfl rfl M0 P8 M0 ?_);intro v2 T hown2 r a;have j:=F hown2;clear hown2;have c:=F a;clear a)
  go_roundw
  exact⟨k+1,M0,by go_num,F (by rw[<-f.o];exact j.o),F (HB.o.trans c.o)⟩
  exact aa
 obtain rfl:k=N:=M0;have d:l.take k=l:=aP (by have:=M.o;omega);rw[d]at h;have kc:=jq (P:=prog) underlying25 underlying5 underlying9 h.o;obtain⟨t,W⟩:=ey (E (fG l));rw[<-W.o]at kc;clear h d;go_wp2_with fail;go_ret;exact⟨by rw[W.o];rfl,HB.o⟩
theorem strip_at{p:UInt8->Bool}{l:O}{i k:Nat}(hik:i<=k)(hk:k<=l.length)(Y:∀j (a:j<l.length),j<i->p l[j]=true)(I:∀j (a:j<l.length),k<=j->p l[j]=true)(d:i=l.length\/∃h:i<l.length,p l[i]=false)(c:k=i\/∃h:k-1<l.length,p l[k-1]=false):trimB p l=(l.drop i).take (k-i):=by
 unfold trimB
 rw[b5F (l:=l) (i:=i) M0 (λx X=>by
  obtain⟨j,a,rfl⟩:=cC X;rw[aD]at a;rw[M8];exact Y j M0 M0) d]
 refine b5T (by rw[aj];omega) (λx X=>?_) ?_
 ·obtain⟨j,a,rfl⟩:=cC X
  rw[aj,aj]at a;rw[M7,M7];exact I _ M0 M0
 rcases c with c|⟨h5,f⟩
 ·exact .inl M0
 by_cases e:k=i
 ·exact .inl M0
 refine .inr ⟨by rw[aj];omega,?_⟩;rw[M7];rw[show l[i+(k-i-1)]=l[k-1]from by congr 1;omega];exact f
theorem b57(l:O)(w:H)(hl:l.length<=1024000000):bP prog 69 #[.string (E l)] w (S (trimB mw l)):=by
 obtain⟨s,K⟩:=V (E l);have L:s.size=l.length:=by rw[K,aF]
 have B:∀k (hk:k<s.size) (D:k<l.length),((s[k]'hk).toNat:Int)=G l[k]:=λk hk D=>cy K hk D;have MU:=F (λa b=>show s.extract a b=E ((l.drop a).take (b-a)) by rw[K];exact cd l a b);have MY:=F<|λ(i k:Nat)=>@strip_at mw l i k;rw[<-K];clear K;obtain⟨N,hN⟩:=V (s.size);have iP:s.size=N:=hN.symm;have oP:N<=1024000000:=M0;have iV:=F B;clear B;have r:=F L;clear L hl hN;generalize w=w3;go_enter func69,ntmps69;go_wp2_with fail
 go_loopw [3] (λiv wr=>∃i:Nat,i<=N/\iv=.int .i64 i/\Hid (∀j (n:j<l.length),j<i->mw l[j]=true)/\w3=wr) (λi _=>N-(intOf i).toNat)
 exact⟨0,M0,Oc,F (λj _ h=>M0),rfl⟩
 obtain⟨i,hi,rfl,Y,rfl⟩:=hrel;by_cases hlt:i<N
 ·have hiu:i<s.size:=by omega
  have u:i<l.length:=by have:=r.o;omega
  have X:=iV.o i hiu u;obtain⟨q,f⟩:=ey (mw l[i]);have c:∀W,bP prog 112 #[.int .u8 (G l[i])] W (.bool q):=λW=>by rw[f.o];exact b48 (G l[i]) W
  obtain⟨X',z⟩:=V (G l[i]);rw[<-z]at X c;have x:=F c;clear z c;cases q with
  |true =>
   have HN:=fo (∀j (n:j<l.length),j<i+1->mw l[j]=true) (λj n h=>by
    by_cases e:j=i
    ·subst e;exact f.o.symm
    exact Y.o j n M0)
   clear Y f
   go_wp2_with(go_at_call 112;refine(x.o _).e ?_)
   go_roundw
   exact⟨i+1,M0,by go_num,HN.o,by trivial⟩
   exact aa
  |false =>
   have H3:=fo (i=l.length\/∃h:i<l.length,mw l[i]=false) (.inr ⟨u,f.o.symm⟩);clear f u
   go_wp2_with(go_at_call 112;refine(x.o _).m ?_;rintro e w2⟨rfl,hw⟩;subst hw)
   clear X x;obtain⟨w4,d⟩:=V (w2);have g:=F d;rw[<-d];clear d
   go_loopw [4] (λkv wr=>∃k:Nat,i<=k/\k<=N/\kv=.int .i64 k/\Hid (∀j (n:j<l.length),k<=j->mw l[j]=true)/\w4=wr) (λk _=>(intOf k).toNat)
   exact⟨N,M0,M0,Oc,F (λj n h=>by have:=r.o;omega),rfl⟩
   obtain⟨k,C,hkN,rfl,I,rfl⟩:=hrel;have hex:=MU.o i k;have hii:(i:Int)<=k:=M0;by_cases hlk:i<k
   ·have c3o:(i:Int)<k:=by omega
    obtain⟨M,hM⟩:∃M,k=M+1:=⟨k-1,M0⟩;have hwr:IntKind.i64.wrap ((k:Int)-1)=(M:Int):=by rw[show(k:Int)-1=(M:Int) by omega];exact gS _ M0
    have hMu:M<s.size:=M0;have Z1:M<l.length:=by have:=r.o;omega
    have X:=iV.o M hMu Z1;obtain⟨q,f⟩:=ey (mw l[M]);have c:∀W,bP prog 112 #[.int .u8 (G l[M])] W (.bool q):=λW=>by rw[f.o];exact b48 (G l[M]) W
    obtain⟨X',z⟩:=V (G l[M]);rw[<-z]at X c;have x:=F c;have Q:=F hM;clear z c hM;cases q with
    |true =>
     have HN:=fo (∀j (n:j<l.length),M<=j->mw l[j]=true) (λj n h=>by
      by_cases e:j=M
      ·subst e;exact f.o.symm
      exact I.o j n (by have:=Q.o;omega))
     clear I f
     go_wp2_with(go_at_call 112;refine(x.o _).e ?_)
     go_roundw
     exact⟨M,by have:=Q.o;omega,M0,by go_num,HN.o,by trivial⟩
     have:=Q.o;simp[intOf];omega
    |false =>
     have R:=fo (∃h:k-1<l.length,mw l[k-1]=false) (by
      have e:k-1=M:=by have:=Q.o;omega
      rw[e];exact⟨Z1,f.o.symm⟩)
     have p:=F<|MY.o i k C (by have:=r.o;omega) Y.o I.o H3.o (.inr R.o);obtain⟨T,y⟩:=ey (E (trimB mw l));rw[<-p.o,<-y.o]at hex;clear Y I f p
     go_wp2_with(go_at_call 112;refine(x.o _).e ?_)
     go_ret;exact⟨by rw[y.o];rfl,g.o⟩
   have J:k=i:=M0;have p:=F<|MY.o i k C (by have:=r.o;omega) Y.o I.o H3.o (.inl J);obtain⟨T,t⟩:=V (E (trimB mw l));rw[<-p.o,<-t]at hex;have y:=F t;have c3o:¬(i:Int)<k:=M0;clear Y I p t J;go_wp2_with fail;go_ret;exact⟨by rw[y.o];rfl,g.o⟩
 obtain rfl:i=N:=M0;have p:=F<|MY.o i i (ag _) (by have:=r.o;omega) Y.o (λj n h=>by have:=r.o;omega) (.inl (by have:=r.o;omega)) (.inl rfl);have y:=F (show S (trimB mw l)=.string ByteArray.empty by rw[p.o,jy,jk];rfl);clear Y p;go_wp2_with fail;obtain⟨w4,d⟩:=V (w3);have g:=F d;rw[<-d];clear d
 go_loopw [4] (λkv wr=>kv=.int .i64 i/\w4=wr) (λk _=>(intOf k).toNat)
 exact⟨Oc,rfl⟩
 obtain⟨rfl,rfl⟩:=hrel;go_wp2_with fail;go_ret;exact⟨by rw[y.o];rfl,g.o⟩

def spI(c:Int):Bool:=decide (c=9\/c=10\/c=13\/c=32)
theorem b6M(x:UInt8):GX x=spI (G x):=ku (P:=λx=>GX x=spI (G x)) (by decide +kernel) x
theorem b4J(c:Int)(w:H):bP prog 114 #[.int .u8 c] w (.bool (spI c)):=by
 go_enter func114,ntmps114;go_wp2_with fail
 all_goals
  go_ret;refine⟨eA ?_,rfl⟩;unfold spI
  first
   |(rw[eq_comm,gx];omega)
   |(rw[eq_comm,gz];simp_all;done)
   |(rw[bX];simp;omega)
   |(rw[bX];simp;done)
theorem c0e{s:O}{k:Nat}(h:s.length=k+1):fN GX s=if spI (G (s[k]' M0))=true then fN GX (s.take k)else s:=by
 have e:s=s.take k++[s[k]' M0]:=by
  rw[<-List.take_succ_eq_append_getElem M0,aP M0]
 rw[<-b6M];by_cases c:GX (s[k]' M0)=true
 ·rw[ge c]
  have a:=b5B GX (s.take k) [s[k]' M0] (λx X=>by rw[dS.mp X];exact c);rw[<-e]at a;exact a
 rw[gc c];have a:=b5C GX (s.take k) (s[k]' M0) (by simpa using c);rw[<-e]at a;exact a
theorem b5n(l:O)(w:H)(hl:l.length<=1024000010):bP prog 113 #[.string (E l)] w (S (fN GX l)):=by
 obtain⟨L,HL⟩:=ey (fN GX l);rw[<-HL.o];obtain⟨w2,x⟩:=V (w);have y:=F x;rw[<-x];go_enter func113,ntmps113;go_wp2_with fail
 go_loopw [0] (λR wr=>∃t:O,R=.string (E t)/\t.length<=1024000010/\Hid (L=fN GX t)/\w2=wr) (λR _=>Dd R)
 exact⟨l,rfl,hl,HL.o,rfl⟩
 clear HL;obtain⟨t,rfl,v,n,rfl⟩:=hrel;obtain⟨s,c⟩:=V (E t);have j:s.size=t.length:=by rw[c,aF]
 have d:s.toList=t:=by rw[c,aB]
 by_cases f:t=[]
 ·have he:s.toList=[]:=by rw[d,f]
  have Q:s.toList.isEmpty=true:=by rw[he];rfl
  rw[<-c];have B:=F (show s=E L by rw[c,n.o,f];rfl);clear n d f c j;go_wp2_with fail;go_ret;exact⟨by rw[B.o];rfl,by first|rfl|exact y.o|exact y.o.symm⟩
 have he:¬s.toList=[]:=by rw[d];exact f
 have Q:s.toList.isEmpty=false:=by simpa using he
 have hpos:0<t.length:=eo.mpr f;obtain⟨M,J⟩:∃M,t.length=M+1:=⟨t.length-1,M0⟩;have q:M<s.size:=M0;have X:((s[M]'q).toNat:Int)=G (t[M]' M0):=cy c q M0;have a:=c0e J;have hex:s.extract 0 M=E (t.take M):=by rw[c];exact nY t M
 obtain⟨N,K⟩:=V (s.size);have iP:s.size=N:=K.symm;have u:N=M+1:=M0;have hMN:M<N:=M0;have hwr:IntKind.i64.wrap ((N:Int)-1)=(M:Int):=by rw[show(N:Int)-1=(M:Int) by omega];exact gS _ M0
 have hMi:(M:Int)<N:=M0;have Z1:(M:Int)<=N:=M0;rw[<-c];obtain⟨p,P⟩:=V (G (t[M]' M0));rw[<-P]at X a;by_cases z:spI p=true
 ·rw[ge z]at a
  have C:=fo (∀W,bP prog 114 #[.int .u8 p] W (.bool true)) (λW=>by have h:=b4J p W;rw[z]at h;exact h);have g:L=fN GX (t.take M):=by rw[n.o,a]
  have i:(t.take M).length=M/\M<N/\N<=1024000010:=by rw[aD];omega
  generalize t.take M=r at g i hex;have TD:=F g;have T:=F i;clear g i;clear n a P d f c j K hpos v u J
  go_wp2_with(go_at_call 114;refine(C.o _).e ?_)
  go_roundw
  exact⟨r,rfl,by have:=T.o;omega,TD.o,by first|rfl|trivial⟩
  ·have:=T.o;show(E r).size<s.size;rw[aF,iP];omega
 rw[gc z]at a;have C:=fo (∀W,bP prog 114 #[.int .u8 p] W (.bool false)) (λW=>by have h:=b4J p W;rw[(b5w _).mp z]at h;exact h);have B:=F (show s=E L by rw[c,n.o,a]);clear n a P d f c j K hpos v u J hex
 go_wp2_with(go_at_call 114;refine(C.o _).e ?_)
 go_ret;exact⟨by rw[B.o];rfl,by first|rfl|exact y.o|exact y.o.symm⟩
def b5e(c:UInt8)(l:O):Nat:=(bQ c l).1.length
theorem b3K.fnd{s:O}{c:UInt8}{n:Nat}(h:b3K s c n):b5e c s=n:=by
 unfold b5e;rw[h.fst,aD,xB h.le]
theorem b7o{l:O}{c:UInt8}{k:Nat}(d:k<l.length)(h:∀x∈l.take k,x≠c)(a:l[k]≠c):∀x∈l.take (k+1),x≠c:=by
 intro x X;rw[aH d]at X;rcases bO.mp X with X|X
 ·exact h x X
 rw[dS.mp X];exact a
theorem b5G(c:UInt8):∀l:O,∃n,b3K l c n
 | []=>⟨0,ag _,(λx X=>by cases X),.inl rfl⟩
 |x::r=>by
  by_cases X:x=c
  ·exact⟨0,aL _,(λy hy=>by cases hy),.inr ⟨Oc,X⟩⟩
  obtain⟨n,h⟩:=b5G c r;refine⟨n+1,by have:=h.le;simpa using this,λy hy=>?_,?_⟩
  ·rw[dM]at hy
   rcases aK.mp hy with rfl|hy
   ·exact X
   exact h.no y hy
  rcases h.at_ with Y|⟨Y,I⟩
  ·exact .inl (by rw[Y];rfl)
  exact .inr ⟨by simpa using Y,I⟩
theorem b49(c:UInt8)(l:O):b3K l c (b5e c l):=by
 obtain⟨n,h⟩:=b5G c l;rw[h.fnd];exact h
theorem b5m(l:O)(c:UInt8)(w:H)(J:l.length<=1024000010):bP prog 67 #[.string (E l),.int .u8 (G c)] w (.int .i64 (b5e c l:Nat)):=by
 obtain⟨s,r⟩:=V (E l);have m:s.size=l.length:=by rw[r,aF]
 have g:∀k (q:k<s.size) (j:k<l.length),((s[k]'q).toNat:Int)=G l[k]:=λk q j=>cy r q j;rw[<-r];clear r;obtain⟨N,z⟩:=V (s.size);have iP:s.size=N:=z.symm;have oP:N<=1024000010:=M0;obtain⟨C,hC⟩:=V (G c);have v:=F (λx:UInt8=>show G x=C ↔ x=c from by rw[hC];exact⟨eX,λh=>by rw[h]⟩);rw[<-hC];have K:=F g;clear g;have t:=F m;clear m J z hC;obtain⟨R,u⟩:=V (b5e c l);rw[<-u];have y:=F (λn (h:b3K l c n)=>show R=n by rw[u];exact h.fnd);clear u;generalize w=M;go_enter func67,ntmps67;go_wp2_with fail
 go_loopw [5] (λiv wr=>∃k:Nat,k<=N/\iv=.int .i64 k/\Hid (∀x∈l.take k,x≠c)/\M=wr) (λi _=>N-(intOf i).toNat)
 exact⟨0,M0,Oc,F (λx X=>by cases X),rfl⟩
 obtain⟨k,q,rfl,hd,rfl⟩:=hrel;by_cases hlt:k<N
 ·have L:k<s.size:=by omega
  have a:k<l.length:=by have:=t.o;omega
  have X:=K.o k L a;by_cases d:G l[k]=C
  ·have f:=F<|y.o k ⟨M0,hd.o,.inr ⟨a,(v.o _).mp d⟩⟩
   rw[d]at X;clear d hd;go_wp2_with fail;go_ret;exact⟨by rw[f.o];rfl,by trivial⟩
  have f:=F<|b7o a hd.o (λe=>d ((v.o _).mpr e));generalize G l[k]=D at X d;have hq:(D==C)=false:=by simpa using d
  clear hd;go_wp2_with fail;go_roundw
  exact⟨k+1,M0,by go_num,f.o,by trivial⟩
  exact aa
 obtain rfl:k=N:=M0;have f:=F<|y.o l.length ⟨ag _,by have h:=hd.o;rw[aP (by have:=t.o;omega)]at h;rw[di];exact h,.inl rfl⟩;have B:=F (show l.length=k by have:=t.o;omega);clear hd;go_wp2_with fail;go_ret;exact⟨by rw[f.o,B.o];rfl,by trivial⟩
theorem b7q:∀k:Fin 15,(((⟨#[33,35,36,37,38,39,42,43,45,46,94,95,96,124,126]⟩:ByteArray)[k.val]'(by have:=k.isLt;show k.val<15;omega)).toNat:Int)=G (wV[k.val]'(by have:=k.isLt;show k.val<15;omega)):=by decide +kernel
theorem b7d{l:O}{c:Int}{k:Nat}(a:k<l.length):iO (l.drop k) c=((G l[k]==c)||iO (l.drop (k+1)) c):=by
 unfold iO;rw[aC a,c10]
theorem b7p(x:UInt8):AZ x=(iQ (G x) || !(decide (fg (G x) 10<0))||iO wV (G x)):=by
 rw[a0Y];rfl
theorem b5y(l:O)(w:H)(hl:l.length<=1024000010):bF prog 115 #[.string (E l)] w (.bool (DW l)):=by
 have hlen:wV.length=15:=rfl;obtain⟨R,HR⟩:=ey (DW l);rw[<-HR.o];obtain⟨s,B⟩:=V (E l);have C:s.size=l.length:=by rw[B,aF]
 have y:∀k (P:k<s.size) (z:k<l.length),((s[k]'P).toNat:Int)=G l[k]:=λk P z=>cy B P z;obtain⟨em,n⟩:=V (l.isEmpty);have hE:(s.toList.isEmpty)=em:=by rw[B,aB,n]
 have UK:=F n;rw[<-B];clear B n;obtain⟨N,hN⟩:=V (s.size);have iP:s.size=N:=hN.symm;have oP:N<=1024000010:=M0;have iV:=F y;clear y;have HSE:=F hE;clear hE;have eM:=F C;clear C hl hN;go_enter func115,ntmps115;go_wp2_with fail
 go_loopw [4,5,6] (λiv _ _ wr=>∃k:Nat,k<=N/\iv=.int .i64 k/\Hid ((l.take k).all AZ=true)/\Hid (r7 w wr)) (λi _ _ _=>N-(intOf i).toNat)
 exact⟨0,M0,Oc,F rfl,F (gT _ _)⟩
 obtain⟨k,P,rfl,hd,BO⟩:=hrel;by_cases hlt:k<N
 ·have mf:k<s.size:=by omega
  have r:k<l.length:=by have:=eM.o;omega
  have X:=iV.o k mf r;have uh:=F<|NI (p:=AZ) r;have px:=F (λh=>show R=false by rw[HR.o];unfold DW;rw[Ub (p:=AZ) r h];rfl);have a:=b7p l[k];have hlt2:=λW=>b5R (G l[k]) W;have g:∀W,bP prog 158 #[.int .u8 (G l[k]),.int .i64 10] W (.int .i64 (fg (G l[k]) 10)):=λW=>(b53 (G l[k]) 10 W (gH _) M0).m (λ_ _ h=>⟨h.1,h.2.symm⟩);generalize AZ l[k]=T at uh px a;generalize G l[k]=d at X a hlt2 g;generalize fg d 10=D at g a;generalize iQ d=L at hlt2 a;have ke:=F hlt2;have Ez:=F g
  have hcs:(L=true/\T=(true||iO wV d))\/(L=false/\0<=D/\¬D<0/\T=(true||iO wV d))\/(L=false/\¬ 0<=D/\D<0/\T=(false||iO wV d)):=by
   cases L with
   |true=>exact .inl ⟨rfl,a⟩
   |false =>
    by_cases M:D<0
    ·rw[gr M]at a
     exact .inr (.inr ⟨rfl,M0,M,a⟩)
    rw[gh M]at a;exact .inr (.inl ⟨rfl,M0,M,a⟩)
  clear hlt2 g a;rcases hcs with⟨rfl,Q⟩|⟨rfl,d1,d2,Q⟩|⟨rfl,d1,d2,Q⟩
  all_goals
   have Hy:=F Q;clear Q
   go_wp2_with(first|(go_at_call 157;refine(ke.o _).e ?_)|(go_at_call 158;refine(Ez.o _).e ?_))
   go_loopw [5,6] (λov kv wr=>∃(j:Nat) (p:Bool),j<=15/\kv=.int .i64 j/\ov=.bool p/\Hid (T=(p||iO (wV.drop j) d))/\Hid (r7 w wr)) (λ_ kv _=>15-(intOf kv).toNat)
   exact⟨0,_,M0,Oc,rfl,F (by first|exact Hy.o|(rw[show decide (0<=D)=false from gh M0];exact Hy.o)),BO⟩
   obtain⟨j,p,hj,rfl,rfl,hp,f⟩:=hrel;by_cases t:j<15
   ·have q:j<wV.length:=t
    have hz:(((⟨#[33,35,36,37,38,39,42,43,45,46,94,95,96,124,126]⟩:ByteArray)[j]'(show j<15 from t)).toNat:Int)=G (wV[j]'q):=b7q ⟨j,t⟩;have J:=F<|b7d (c:=d) q;generalize G (wV[j]'q)=K at hz J;cases p with
    |true =>
     have u:=F (show T=(true||iO (wV.drop (j+1)) d) by rw[hp.o];rfl);clear hp J;go_wp2_with fail
     go_quiet (fail)
     go_wp2_with fail;go_roundw
     exact⟨j+1,true,M0,by go_num,rfl,u.o,F (by first|exact bG f.o|exact nO f.o|exact f.o)⟩
     exact aa
    |false =>
     have u:=F (show T=((K==d)||iO (wV.drop (j+1)) d) by rw[hp.o,J.o];rfl);clear hp J;by_cases he:K=d
     ·subst he
      have X1:=F (show T=(true||iO (wV.drop (j+1)) K) by rw[u.o];simp);clear u;go_wp2_with fail
      go_quiet (fail)
      go_wp2_with fail;go_roundw
      exact⟨j+1,true,M0,by go_num,rfl,X1.o,F (by first|exact bG f.o|exact nO f.o|exact f.o)⟩
      exact aa
     have hq:(K==d)=false:=by simpa using he
     have X1:=F (show T=(false||iO (wV.drop (j+1)) d) by rw[u.o,hq]);clear u;go_wp2_with fail
     go_quiet (fail)
     go_wp2_with fail;go_roundw
     exact⟨j+1,false,M0,by go_num,rfl,X1.o,F (by first|exact bG f.o|exact nO f.o|exact f.o)⟩
     exact aa
   obtain rfl:j=15:=M0;have x:T=p:=by rw[hp.o];show(p||iO [] d)=p;simp[iO]
   clear hp;cases p with
   |true =>
    have v:=F (show(l.take (k+1)).all AZ=true by rw[uh.o,hd.o,x];rfl);go_wp2_with fail;go_roundw
    exact⟨k+1,M0,by go_num,v.o,f⟩
    exact aa
   |false =>
    have v:=F<|px.o x;go_wp2_with fail;go_ret;exact⟨by rw[v.o];rfl,f.o⟩
 obtain rfl:k=N:=M0
 have v:=F (show R=!em by
  have h:=hd.o;rw[aP (by have:=eM.o;omega)]at h;rw[HR.o,UK.o];unfold DW;rw[h];rfl)
 have hq:=HSE.o;clear hd;go_wp2_with fail;go_ret;exact⟨by rw[v.o];rfl,BO.o⟩

theorem b6d{l:O}{M k:Nat}(hM:l.length=M+6)(e:k<=M)(Y:∀j (a:j<l.length),k<=j->j<M->l[j]=32)(I:k=0\/∃h:k-1<l.length,l[k-1]≠32):fN (λx=>decide (x=32)) (l.take M)=l.take k:=by
 have h:=b5T (p:=λx=>decide (x=32)) (l:=l.take M) (k:=k) (by rw[aD];omega) (λx X=>by
  obtain⟨j,a,rfl⟩:=cC X;rw[aj,aD]at a;rw[M7,M8];exact gr (Y _ M0 M0 M0)) (by
  rcases I with I|⟨I,d⟩
  ·exact .inl I
  by_cases c:k=0
  ·exact .inl c
  refine .inr ⟨by rw[aD];omega,?_⟩;rw[M8];exact gh d)
 rw[h,List.take_take,xB e]
theorem b6N{l:O}{k:Nat}(d:k<l.length):Lib.hasSuffix (l.take (k+1)) [59]=decide (l[k]=59)/\Lib.trimSuffix (l.take (k+1)) [59]=if l[k]=59 then l.take k else l.take (k+1):=by
 have e:l.take (k+1)=l.take k++[l[k]]:=aH d
 have Y:Lib.hasSuffix (l.take (k+1)) [59]=decide (l[k]=59):=by
  rw[bX,gx,e];unfold Lib.hasSuffix;rw[a9b];constructor
  ·rintro⟨a,c⟩
   have:=q9 c rfl;injection this with h _
   exact h.symm
  intro h;exact⟨l.take k,by rw[h]⟩
 refine⟨Y,?_⟩;rw[Wx,Y];by_cases h:l[k]=59
 ·rw[ge (gr h),ge h,e,c74]
 rw[gc (by rw[gh h];simp),gc h]
theorem b6k(l:O)(w:H)(hl:l.length<=1024000000):bF prog 68 #[.string (E l)] w (S (qA l)):=by
 obtain⟨s,n⟩:=V (E l);have hsz:s.size=l.length:=by rw[n,aF]
 by_cases h6:l.length<7
 ·have U:qA l=l:=by
   by_cases h5:l.length<6
   ·exact uQ h5
   rw[xX M0,show l.length-6=0 by omega,gc];rintro⟨_,h⟩;rw[jk]at h;exact absurd h P8
  rw[U,show S l=.string s by rw[n],<-n];obtain⟨N,T⟩:=V (s.size);have iP:s.size=N:=T.symm;have h7:(N:Int)<7:=M0;clear n hsz T h6 hl U;go_enter func68,ntmps68;go_wp2_with fail;go_ret;exact⟨rfl,gT _ _⟩
 obtain⟨R,D⟩:=V (qA l);have hby:∀k (hk:k<s.size) (hk2:k<l.length),((s[k]'hk).toNat:Int)=G l[k]:=λk hk hk2=>cy n hk hk2;have MU:=F (λb=>show s.extract 0 b=E (l.take b) by rw[n];exact nY l b);rw[<-D,<-n];rw[xX M0]at D;obtain⟨M,hM⟩:∃M,l.length=M+6:=⟨l.length-6,M0⟩;rw[show l.length-6=M by omega]at D;have B:IntKind.i64.wrap ((s.size:Int)-6)=(M:Int):=by rw[show(s.size:Int)-6=(M:Int) by omega];exact gS _ M0
 have pT:s.extract M s.size=E (l.drop M):=by rw[n];exact gn l M _ (aF l)
 obtain⟨db,hdb,lb,v⟩:=ac (E (l.drop M)) (E (fG (l.drop M)));have y:=λW=>b4M (l.drop M) W (by rw[aj];omega);rw[<-hdb]at pT y;have p:(lb.toList == [98,97,115,101,54,52])=decide (fG (l.drop M)=b64):=by rw[v,aB,jB];rfl
 obtain⟨q1,P1⟩:=V (decide (fG (l.drop M)=b64));rw[<-P1]at p;have Yw:=fo (∀W,bF prog 111 #[.string db] W (.string lb)) (by rw[v];exact y);obtain⟨N,T⟩:=V (s.size);have iP:s.size=N:=T.symm;have h7:¬(N:Int)<7:=M0;have hMN:M<=N:=M0;have hMi:(M:Int)<=N:=M0;have hM0:¬(M:Int)<0:=M0;have c7k:M<=1024000000:=M0;rw[iP]at B pT;obtain⟨iV,HM,HSL⟩:=cZ hby hM (show N=l.length by omega)
 have iT:=F (show q1=false->S R=.string s by
  intro P;rw[P1,gz]at P;rw[D,gc (λh=>P h.1),n])
 have q:=fo (q1=true->∀k,k<=M->fN (λx=>decide (x=32)) (l.take M)=l.take k->R=if Lib.hasSuffix (l.take k) [59]=true then Lib.trimSuffix (l.take k) [59]else l) (λP k hk e=>by
  rw[P1,gx]at P;rw[D,e];by_cases h:Lib.hasSuffix (l.take k) [59]=true
  ·rw[ge ⟨P,h⟩,ge h]
  rw[gc (λI=>h I.2),gc h])
 have HS:=F n;clear n hsz hM D hdb v y P1 h6 hl T hby;cases q1 with
 |false =>
  have t:=F<|iT.o rfl;clear iT q;have hq2:(lb.toList != [98,97,115,101,54,52])=true:=by unfold bne;rw[p];rfl
  go_enter func68,ntmps68
  go_wp2_with(go_at_call 111;refine(Yw.o _).k λw2 K=>?_)
  go_ret;exact⟨by rw[t.o];rfl,K.o⟩
 |true =>
  have L:=F<|q.o rfl;clear iT q;have hq2:(lb.toList != [98,97,115,101,54,52])=false:=by unfold bne;rw[p];rfl
  go_enter func68,ntmps68
  go_wp2_with(go_at_call 111;refine(Yw.o _).k λw2 K=>?_)
  clear B pT p hq2;obtain⟨w3,z⟩:=V (w2);have r:=F z;rw[<-z];clear z
  go_loopw [4] (λkv wr=>∃k:Nat,k<=M/\kv=.int .i64 k/\Hid (∀j (hj:j<l.length),k<=j->j<M->l[j]=32)/\w3=wr) (λk _=>(intOf k).toNat)
  exact⟨M,M0,Oc,F (λj hj Y I=>M0),rfl⟩
  obtain⟨k,hk,rfl,Y,rfl⟩:=hrel;by_cases hk0:k=0
  ·subst hk0
   have t:=F (show S R=.string s by rw[L.o 0 (aL _) (b6d HM.o (aL _) Y.o (.inl rfl)),gc (by rw[jk];decide),HS.o]);clear Y;go_wp2_with fail;go_ret;exact⟨by rw[t.o];rfl,by rw[r.o];exact K.o⟩
  obtain⟨J,hJ⟩:∃J,k=J+1:=⟨k-1,M0⟩;have hk1:(0:Int)<k:=M0;have B:IntKind.i64.wrap ((k:Int)-1)=(J:Int):=by rw[show(k:Int)-1=(J:Int) by omega];exact gS _ M0
  have hJs:J<s.size:=M0;have u:J<l.length:=by have:=HSL.o;omega
  have X:=iV.o J hJs u;have hJN:J<=N:=M0;have hJi:(J:Int)<=N:=M0;have C:=F hJ;have Q:G l[J]=32 ↔ l[J]=32:=⟨λh=>eX (h.trans P8),λh=>by rw[h];decide⟩;have kR:G l[J]=59 ↔ l[J]=59:=⟨λh=>eX (h.trans P8),λh=>by rw[h];decide⟩;have g:=F Q;have f:=F kR;clear hJ Q kR;by_cases c:G l[J]=32
  ·have HN:=fo (∀j (hj:j<l.length),J<=j->j<M->l[j]=32) (λj hj a b=>by
    by_cases e:j=J
    ·subst e;exact g.o.mp c
    exact Y.o j hj (by have:=C.o;omega) b)
   rw[c]at X;clear Y c g f;go_wp2_with fail;go_roundw
   exact⟨J,by have:=C.o;omega,by go_num,HN.o,by trivial⟩
   have:=C.o;simp[intOf];omega
  have HT:=fo (fN (λx=>decide (x=32)) (l.take M)=l.take (J+1)) (b6d HM.o (by have:=C.o;omega) (by have:=C.o;rw[<-this];exact Y.o) (.inr ⟨u,λe=>c (g.o.mpr e)⟩));have i:=F<|L.o (J+1) (by have:=C.o;omega) HT.o;have Z0:=b6N u;rw[Z0.1,Z0.2]at i;by_cases d:G l[J]=59
  ·have t:=F (show S R=.string (s.extract 0 J) by rw[i.o,ge (gr (f.o.mp d)),ge (f.o.mp d),MU.o])
   have q32:(G l[J]==32)=false:=by simpa using c
   rw[d]at X;clear Y c d g f HT i Z0 q32;go_wp2_with fail;go_ret;exact⟨by rw[t.o];rfl,by rw[r.o];exact K.o⟩
  have t:=F (show S R=.string s by rw[i.o,gc (by rw[gh (λe=>d (f.o.mpr e))];simp),HS.o]);generalize G l[J]=X' at X c d;have q32:(X'==32)=false:=by simpa using c
  have GG:(X'==59)=false:=by simpa using d
  clear Y g f HT i Z0;go_wp2_with fail;go_ret;exact⟨by rw[t.o];rfl,by rw[r.o];exact K.o⟩

theorem b96{s:O}(h:0<s.length):s.dropWhile GX=if spI (G s[0])=true then(s.drop 1).dropWhile GX else s:=by
 rw[<-b6M];cases s with
 |nil=>cases h
 |cons c t =>
  show List.dropWhile GX (c::t)=if GX c=true then t.dropWhile GX else c::t;by_cases a:GX c=true
  ·rw[ge a,aQ a]
  rw[gc a,aX a]
theorem b6L(l:O)(w:H)(hl:l.length<=1024000000):Calls prog 70 #[.string (E l)] w λe w'=>e=z7 (KR l)/\r7 w w':=by
 obtain⟨R,hR⟩:=V (KR l);rw[<-hR];unfold KR at hR;obtain⟨s0,hs0⟩:=V (E l);have hbe:=λW=>b5n l W M0;have B:=zn GX l;have b9Y:=b6y GX l;obtain⟨t0,ht0⟩:=V (fN GX l);rw[<-ht0]at hbe B b9Y;have hTl:=zl GX l;obtain⟨T,hT⟩:=V (trimB GX l);rw[<-hT]at hR hTl;rw[show fN GX (l.dropWhile GX)=T from hT.symm]at B;have j:=b49 47 T;have hfi:=λW=>b5m T 47 W M0;obtain⟨n,g⟩:=V (b5e 47 T);rw[<-g]at hfi j;have hnl:=j.le
 have hRN:n=T.length->R=none:=λe=>by
  rw[hR,j.flag,gh M0];rfl
 have c:n<T.length->R=if DW (T.take n)=true/\DW (fN GX (bQ 59 (T.drop (n+1))).1)=true then some (fG (T.take n)++[47]++fG (fN GX (bQ 59 (T.drop (n+1))).1))else none:=λe=>by
  rw[hR,j.some e,ge rfl]
 obtain⟨hd,J,tl,a⟩:=ac (T.take n) (T.drop (n+1));have hhl:hd.length<=1024000000:=by rw[J,aD];omega
 have c3v:tl.length<=1024000000:=by rw[a,aj];omega
 have z:=b49 59 tl;have b71:=λW=>b5m tl 59 W M0;obtain⟨m,hm⟩:=V (b5e 59 tl);rw[<-hm]at b71 z;have hml:=z.le;rw[<-J,<-a,z.fst]at c;obtain⟨v,hv⟩:=V (tl.take m);have hvl:v.length<=1024000000:=by rw[hv,aD];omega
 rw[<-hv]at c;have vD:=λW=>b5n v W M0;have hyl:=b6y GX v;obtain⟨y,hy⟩:=V (fN GX v);rw[<-hy]at c vD hyl;have hk1:=λW=>b5y hd W M0;have hk2:=λW=>b5y y W M0;obtain⟨q1,hq1,q2,hq2⟩:=ac (DW hd) (DW y);rw[<-hq1]at hk1 c;rw[<-hq2]at hk2 c;have hl1:=λW=>b4M hd W hhl;have hl2:=λW=>b4M y W M0;obtain⟨tb,f,U,XH,lb,k,vb,hvb,yb,Q,ha,D,ya,P,u1,M⟩:=b2 (E T) (E hd) (E tl) (E v) (E y) (E (fG hd)) (E (fG y)) (E (fG hd++[47]));obtain⟨u2,hu2⟩:=V (E (fG hd++[47]++fG y));have hza:ha.size<=1024000000:=by rw[D,aF,b5k];exact hhl
 have hzy:ya.size<=1024000000:=by rw[P,aF,b5k];omega
 have hzu:u1.size<=1024000001:=by rw[M,aF,ae,b5k];show hd.length+1<=_;omega
 have e1:ha++⟨#[47]⟩=u1:=by rw[D,M];exact mm (fG hd) [47]
 have e2:u1++ya=u2:=by rw[M,hu2,P];exact mm _ _
 obtain⟨HB0,UZ,Hs,HB2,Tz,SZ,J5,HL2⟩:=er (show ∀W,bP prog 113 #[.string s0] W (S t0)from by rw[hs0];exact hbe) (show ∀W,bP prog 67 #[.string tb,.int .u8 47] W (.int .i64 n)from by rw[f];exact hfi) (show ∀W,bP prog 67 #[.string lb,.int .u8 59] W (.int .i64 m)from by rw[k];exact b71) (show ∀W,bP prog 113 #[.string vb] W (.string yb)from by rw[hvb,Q];exact vD) (show ∀W,bF prog 115 #[.string U] W (.bool q1)from by rw[XH];exact hk1) (show ∀W,bF prog 115 #[.string yb] W (.bool q2)from by rw[Q];exact hk2) (show ∀W,bF prog 111 #[.string U] W (.string ha)from by rw[XH,D];exact hl1) (show ∀W,bF prog 111 #[.string yb] W (.string ya)from by rw[Q,P];exact hl2);obtain⟨TM,TO,HX3,HZT,HZL,HZD,HU,iT⟩:=er (show tb.extract 0 n=U by rw[f,XH,J];exact nY T n) (show tb.extract (n+1) tb.size=lb by rw[f,k,a,aF];exact gn T (n+1) _ rfl) (show lb.extract 0 m=vb by rw[k,hvb,hv];exact nY tl m) (show tb.size=T.length by rw[f,aF]) (show lb.size=tl.length by rw[k,aF]) (show n<T.length->tl.length=T.length-(n+1) by intro _;rw[a,aj]) hu2 hRN;obtain⟨sU,HT0,Hy⟩:=cZ c B f;have c7n:T.length<=1024000000:=M0;have c3t:t0.length<=1024000000:=M0;rw[<-hs0];clear hs0 hbe b9Y hTl hfi b71 j z hhl c3v hvl vD hyl hk1 hk2 hl1 hl2 f XH k hvb Q D P M hu2 hR hl B hT ht0 g hm J a hv hy hq1 hq2 hRN c;go_enter func70,ntmps70
 go_wp2_with(go_at_call 113;refine(HB0.o _).e ?_)
 obtain⟨w3,hw3⟩:=V (w);have i:=F hw3;rw[<-hw3];clear hw3
 go_loopw [0] (λsv wr=>∃t:O,sv=.string (E t)/\t.length<=1024000000/\Hid (T=t.dropWhile GX)/\w3=wr) (λsv _=>Dd sv)
 exact⟨t0,rfl,c3t,F HT0.o.symm,rfl⟩
 obtain⟨t,rfl,a,ht,rfl⟩:=hrel;obtain⟨s,p⟩:=V (E t);have L:s.size=t.length:=by rw[p,aF]
 have q:s.toList=t:=by rw[p,aB]
 by_cases g:t=[]
 ·have he:s.toList=[]:=by rw[q,g]
  have he1:s.toList.isEmpty=true:=by rw[he];rfl
  have C:T=[]:=by rw[ht.o,g];rfl
  have hst:s=tb:=by rw[Hy.o,C,p,g]
  rw[<-p];subst hst;have hn0:n=0:=by have:=hnl;rw[C]at this;simpa using this
  subst hn0;have hz0:s.size=0:=by rw[L,g];rfl
  have x:=F<|iT.o (by rw[C];rfl);clear ht q g p L C
  go_wp2_with(go_at_call 67;refine(UZ.o _).e ?_)
  go_ret2
  exact⟨by rw[x.o];rfl,by rw[i.o];exact gT _ _⟩
 have he:¬s.toList=[]:=by rw[q];exact g
 have he1:s.toList.isEmpty=false:=by simpa using he
 have hpos:0<t.length:=eo.mpr g;have Nd:0<s.size:=M0;have X:((s[0]'Nd).toNat:Int)=G t[0]:=cy p Nd hpos;have d:=b96 hpos;have hex:s.extract 1 s.size=E (t.drop 1):=by rw[p];exact gn t 1 _ (aF t)
 obtain⟨N,hN⟩:=V (s.size);have iP:s.size=N:=hN.symm;rw[iP]at hex Nd;have hNi:(1:Int)<=N:=M0;have h0i:(0:Int)<N:=M0;have hNt:N=t.length:=M0;rw[<-p];obtain⟨X',hX⟩:=V (G t[0]);rw[<-hX]at X d;by_cases hc:spI X'=true
 ·rw[ge hc]at d
  have u:=fo (∀W,bP prog 114 #[.int .u8 X'] W (.bool true)) (λW=>by have h:=b4J X' W;rw[hc]at h;exact h);have hnx:T=(t.drop 1).dropWhile GX:=by rw[ht.o,d]
  have hrl:(t.drop 1).length+1=N/\N<=1024000000:=by rw[aj];omega
  generalize t.drop 1=r at hnx hrl hex;have TD:=F hnx;have EF:=F hrl;clear hnx hrl;clear ht d hX q g p L hN hpos hNt a
  go_wp2_with(go_at_call 114;refine(u.o _).e ?_)
  go_roundw
  exact⟨r,rfl,by have:=EF.o;omega,TD.o,by trivial⟩
  ·have:=EF.o;show(E r).size<s.size;rw[aF,iP];omega
 rw[gc hc]at d;have u:=fo (∀W,bP prog 114 #[.int .u8 X'] W (.bool false)) (λW=>by have h:=b4J X' W;rw[(b5w _).mp hc]at h;exact h);have hTt:T=t:=by rw[ht.o,d]
 have hst:s=tb:=by rw[Hy.o,hTt,p]
 subst hst;have hNT:N=T.length:=by rw[hNt,hTt]
 have c2u:=F (show s.extract (n+1) N=lb by rw[<-iP];exact TO.o);clear ht d hX q g p L hN hpos hNt hTt hex TO a;by_cases hnT:n=T.length
 ·have x:=F<|iT.o hnT
  have uO:n=N:=M0;subst uO
  go_wp2_with(first|(go_at_call 114;refine(u.o _).e ?_)|(go_at_call 67;refine(UZ.o _).e ?_))
  go_ret2
  exact⟨by rw[x.o];rfl,by rw[i.o];exact gT _ _⟩
 have b4O:n<T.length:=M0;have HR:=F<|sU.o b4O;have uO:¬(n:Int)=N:=M0;have b6j:((n:Int)==N)=false:=by simpa using uO
 have hni:(n:Int)<=N:=M0;have c7D:n<=N:=M0;obtain⟨K,hK⟩:=V (n+1);have hwK:IntKind.i64.wrap ((n:Int)+1)=(K:Int):=by rw[show(n:Int)+1=(K:Int) by omega];exact gS _ M0
 have hx1:=TM.o;have hx2:=c2u.o;have hx3:=HX3.o;rw[<-hK]at hx2;have hKi:(K:Int)<=N:=M0;have c7h:K<=N:=M0;obtain⟨Z',hZ⟩:=V (lb.size);have hlz:lb.size=Z':=hZ.symm;have hmZ:m<=Z':=by have:=HZL.o;omega
 have c7y:(m:Int)<=Z':=M0;have HK:=F hK;clear hK hZ hnT b4O iT sU hnl hml hNT
 go_upto_region 10 with(first|(go_at_call 114;refine(u.o _).e ?_)|(go_at_call 67;(with_reducible first|refine(UZ.o _).m ?_|refine(Hs.o _).m ?_);rintro e w2⟨rfl,hw⟩;subst w2)|(go_at_call 113;refine(HB2.o _).e ?_))
 clear hx1 hx2 hx3 hwK X;cases q1 with
 |false =>
  have x:=F (show R=none by rw[HR.o];rfl)
  go_wp2_with(go_at_call 115;(with_reducible refine(Tz.o _).m ?_);rintro e w6⟨rfl,U⟩;have B6:=F U;clear U)
  go_ret2
  exact⟨by rw[x.o];rfl,by rw[i.o]at B6;exact B6.o⟩
 |true =>
  cases q2 with
  |false =>
   have x:=F (show R=none by rw[HR.o];rfl)
   go_wp2_with(first|(go_at_call 115;(with_reducible refine(Tz.o _).m ?_);rintro e w6⟨rfl,U⟩;have B6:=F U;clear U)|(go_at_call 115;(with_reducible refine(SZ.o _).m ?_);rintro e w7⟨rfl,U⟩;have B7:=F<|dw B6.o U;clear U))
   go_ret2
   exact⟨by rw[x.o];rfl,by rw[i.o]at B7;exact B7.o⟩
  |true =>
   have n1:¬ 9223372036854775807<ha.size+1:=M0;have n2:¬ 9223372036854775807<u1.size+ya.size:=M0;have x:=F (show z7 R=.returned (.tuple #[.string u2,.bool true]) by rw[HR.o,HU.o];rfl)
   go_wp2_with(first|(go_at_call 115;(with_reducible refine(Tz.o _).m ?_);rintro e w6⟨rfl,U⟩;have B6:=F U;clear U)|(go_at_call 115;(with_reducible refine(SZ.o _).m ?_);rintro e w7⟨rfl,U⟩;have B7:=F<|dw B6.o U;clear U)|(go_at_call 111;(with_reducible refine(J5.o _).m ?_);rintro e w8⟨rfl,U⟩;have B8:=F<|dw B7.o U;clear U)|(go_at_call 111;(with_reducible refine(HL2.o _).m ?_);rintro e w9⟨rfl,U⟩;have B9:=F<|dw B8.o U;clear U))
   go_ret2
   exact⟨by rw[x.o];rfl,by rw[i.o]at B9;exact B9.o⟩

theorem b74(z:O)(h:0<z.length):Lib.hasPrefix z [59]=decide (G z[0]=59):=by
 cases z with
 |nil=>cases h
 |cons c r =>
  rw[bX,gx];show((59==c)&&Lib.hasPrefix r [])=true ↔ G c=59;have e:Lib.hasPrefix r []=true:=by cases r <;>rfl
  rw[e,nk,beq_iff_eq];exact⟨λh=>by rw[<-h];decide,λh=>(eX (h.trans P8)).symm⟩
theorem b7f{u:Url}(hd:u.aJ=qI):∃r:O,dA u false=(qI++[58])++r/\BY u=if b5e 44 r<r.length then some (a5K (qA (trimB mw (r.take (b5e 44 r)))))else none:=by
 obtain⟨r,f⟩:=V (ld u++nh u++qF u++Nc u false)
 have e:dA u false=(qI++[58])++r:=by
  unfold dA;rw[hd,f];simp only[bB]
 refine⟨r,e,?_⟩;have h:=b6E (b49 44 r) (d:=qI++[58]) P8;unfold BY;rw[ge hd,e,h.1,h.2]
 have c:b76 (qI++[58]++r.take (b5e 44 r)) (qI++[58])=r.take (b5e 44 r):=by
  unfold b76
  rw[ge (by
   unfold Lib.hasPrefix;rw[ej];exact⟨_,rfl⟩)]
  exact a1B
 rw[c];by_cases a:b5e 44 r<r.length
 ·rw[ge (gr a),ge a]
 rw[gc (by rw[gh a];simp),gc a]
theorem b6l(u:Url)(A:Z)(w:H)(h:zK u)(hs:Sl w.heap.size w A (u.path.map S))(hl:(dA u false).length<=1000000000) :
  Calls prog 37 #[.agg (ai A u)] w λe w'=>e=z7 (BY u)/\r7 w w':=by
 have MZ:=F<|λW (U:r7 w W)=>b7a u (ai A u) A false W (lV A h.ok) ((hs.below U).more U.size) h.sm;have H8:=F h.six;obtain⟨sb,T⟩:=V (E u.aJ);have ka:=F (show(ai A u)[0]?= some (.string sb) by rw[T];exact(ry A u h.six).aJ);obtain⟨q,Q⟩:=V (decide (u.aJ=qI));have hq1:(sb.toList == [100,97,116,97])=q:=by rw[T,aB,jB,Q];rfl
 have hq3:(sb.toList != [100,97,116,97])=!q:=by unfold bne;rw[hq1]
 have C1:=F<|CB.new w 34 (ai A u);have B1:=F<|(gT w.heap.size w).alloc (ag _) (.cells (ai A u) 34);obtain⟨w1,B⟩:=ey (w.alloc (.cells (ai A u) 34));rw[<-B.o]at C1 B1;clear h hs T;cases q with
 |false =>
  have HN:=F (show BY u=none by unfold BY;rw[gc (by rw[eq_comm,gz]at Q;exact Q)]);clear Q hl MZ;go_enter func37,ntmps37
  go_upto_region 1 with fail
  rw[<-B.o]
  go_wp2_with((with_reducible apply bS);refine kA rfl 9 rfl w.heap.size 34 (ai A u) C1.o 0 (.string sb) ka.o rfl ?_)
  go_ret2
  exact⟨by rw[HN.o];rfl,B1.o⟩
 |true =>
  obtain⟨r,hr,hR⟩:=b7f (show u.aJ=qI by rw[eq_comm,gx]at Q;exact Q);obtain⟨R,hRR⟩:=V (BY u);rw[<-hRR]at hR⊢;have hrl:r.length+5=(dA u false).length:=by rw[hr,ae];show _=5+r.length;omega
  obtain⟨tb,j⟩:=V (E (dA u false));rw[show S (dA u false)=.string tb by rw[j]]at MZ;have htz:tb.size=r.length+5:=by rw[j,aF,hrl]
  obtain⟨rb,i⟩:=V (E r);have hrz:rb.size=r.length:=by rw[i,aF]
  obtain⟨L,hL⟩:=V (tb.size);have htL:tb.size=L:=hL.symm;have HX5:=(show tb.extract 5 L=rb by rw[j,i,hL,j,aF,hr];exact(gn _ 5 _ rfl).trans r5);have h5i:(5:Int)<=L:=M0;have h5n:5<=L:=M0;have M:=λW=>b5m r 44 W M0;have hnl:=(b49 44 r).le;obtain⟨n,hn⟩:=V (b5e 44 r);rw[<-hn]at M hnl hR;have UZ:=fo (∀W,bP prog 67 #[.string rb,.int .u8 44] W (.int .i64 n)) (by rw[i];exact M);obtain⟨k,hk⟩:=V (r.take n);have hkl:k.length<=1000000000:=by rw[hk,aD];omega
  obtain⟨kb,s⟩:=V (E k);have HXK:=F (show rb.extract 0 n=kb by rw[i,s,hk];exact nY r n);rw[<-hk]at hR;obtain⟨N,hN⟩:=V (rb.size);have hrN:rb.size=N:=hN.symm;have uO:n<=N:=M0;have n7:n=N->R=none:=λe=>by rw[hR,gc M0]
  have C:n<N->R=some (a5K (qA (trimB mw k))):=λe=>by rw[hR,ge M0]
  clear Q hr hRR hrl j htz i hrz hL M hnl hn hk hR hN hl;by_cases g:n=N
  ·have HN:=F<|n7 g
   clear n7 C s;go_enter func37,ntmps37
   go_upto_region 1 with fail
   rw[<-B.o];have hnq:((n:Int)==N)=true:=by rw[g];simp
   go_wp2_with(first|((with_reducible apply bS);first|refine kA rfl 9 rfl w.heap.size 34 (ai A u) C1.o 0 (.string sb) ka.o rfl ?_|refine cR r5 1 rfl w.heap.size A u H8.o rfl C1.o ?_)|(go_at_call 66;refine(MZ.o _ B1.o).k λw2 U=>?_;have B2:=F<|dw B1.o U.o;clear U)|(go_at_call 67;refine(UZ.o _).e ?_))
   go_ret2
   exact⟨by rw[HN.o];rfl,B2.o⟩
  have d:=C M0;have hnq:((n:Int)==N)=false:=by simpa using λe=>g M0
  have c3p:¬(n:Int)=N:=λe=>g M0;have hni:(n:Int)<=N:=M0;clear n7 C g;have hst:=λW=>b57 k W M0;have hml:=zl mw k;generalize trimB mw k=m at hst hml d;have D:=λW=>b6k m W M0;have hzl:=Kp m;generalize qA m=z at D hzl d;unfold a5K at d;obtain⟨y,hy⟩:=V (if Lib.hasPrefix z [59]=true then mP++z else z);rw[<-hy]at d
  have hyl:y.length<=1024000000:=by
   rw[hy]
   split
   ·rw[ae]
    have:mP.length=10:=rfl;omega
   omega
  have K:=λW=>b6L y W hyl;obtain⟨E',hE⟩:=V (KR y);rw[<-hE]at K d;obtain⟨mb,P,f,a,yb,l⟩:=ax (E m) (E z) (E y);obtain⟨HST,xt,p,HR⟩:=dT (show ∀W,bP prog 69 #[.string kb] W (.string mb)from by rw[s,P];exact hst) (show ∀W,bF prog 68 #[.string mb] W (.string f)from by rw[P,a];exact D) (show ∀W,Calls prog 70 #[.string yb] W λe w'=>e=z7 E'/\r7 W w' from by rw[l];exact K) d;have nz:¬ 9223372036854775807<10+f.size:=by rw[a,aF];omega
  have hcs:(f.toList=[]/\f=yb)\/(¬f.toList=[]/\∃hz:0<f.size,∃c:Int,((f[0]'hz).toNat:Int)=c/\((c=59/\(⟨#[116,101,120,116,47,112,108,97,105,110]⟩:ByteArray)++f=yb)\/((c==59)=false/\¬c=59/\f=yb))):=by
   by_cases t:z=[]
   ·left
    refine⟨by rw[a,aB,t],?_⟩;rw[l,a,hy,t];rfl
   right
   have hpos:0<z.length:=eo.mpr t;have hps:0<f.size:=by rw[a,aF];exact hpos
   refine⟨by rw[a,aB];exact t,hps,G z[0],cy a hps hpos,?_⟩;have hp:=b74 z hpos;by_cases J:G z[0]=59
   ·refine .inl ⟨J,?_⟩
    rw[l,a,hy,hp,ge (gr J)];exact mm mP z
   refine .inr ⟨by simpa using J,J,?_⟩;rw[l,a,hy,hp,gc (by rw[gh J];simp)]
  have c2x:=HXK.o;clear hst hml D hzl hyl d K P a l hy s hE hkl HXK;go_enter func37,ntmps37
  go_upto_region 1 with fail
  rw[<-B.o]
  go_upto_region 9 with(first|((with_reducible apply bS);first|refine kA rfl 9 rfl w.heap.size 34 (ai A u) C1.o 0 (.string sb) ka.o rfl ?_|refine cR r5 1 rfl w.heap.size A u H8.o rfl C1.o ?_)|(go_at_call 66;refine(MZ.o _ B1.o).k λw2 U=>?_;have B2:=F<|dw B1.o U.o;clear U)|(go_at_call 67;refine(UZ.o _).e ?_)|(go_at_call 69;refine(HST.o _).e ?_)|(go_at_call 68;refine(xt.o _).k λw5 U=>?_;have B5:=F<|dw B2.o U.o;clear U))
  clear HX5 c2x htL h5i h5n hnq c3p hni hrN;rcases hcs with⟨z1,rfl⟩|⟨z1,hz,c,X,J⟩
  ·have z2:(f.toList == [])=true:=by rw[z1];rfl
   have z3:f.toList.isEmpty=true:=by rw[z1];rfl
   cases E' with
   |none =>
    go_wp2_with(go_at_call 70;refine(p.o _).k λw6 U=>?_;have v:=F<|dw B5.o U.o;clear U;dsimp only[z7])
    go_ret2
    exact⟨by rw[HR.o];rfl,v.o⟩
   |some x =>
    go_wp2_with(go_at_call 70;refine(p.o _).k λw6 U=>?_;have v:=F<|dw B5.o U.o;clear U;dsimp only[z7])
    go_ret2
    exact⟨by rw[HR.o];rfl,v.o⟩
  have z3:f.toList.isEmpty=false:=by simpa using z1
  rcases J with⟨rfl,t4⟩|⟨c1,c2,rfl⟩
  all_goals
   cases E' with
   |none =>
    go_wp2_with(go_at_call 70;refine(p.o _).k λw6 U=>?_;have v:=F<|dw B5.o U.o;clear U;dsimp only[z7])
    go_ret2
    exact⟨by rw[HR.o];rfl,v.o⟩
   |some x =>
    go_wp2_with(go_at_call 70;refine(p.o _).k λw6 U=>?_;have v:=F<|dw B5.o U.o;clear U;dsimp only[z7])
    go_ret2
    exact⟨by rw[HR.o];rfl,v.o⟩

structure yc (l:O) (ws:List O) (b i:Nat):Prop where
 le:b<=i
 go:i<=l.length->EZ l=ws++up ((l.drop b).take (i-b)) (l.drop i)
 no:l.length<i->EZ l=ws
 n:ws.length<=i
theorem yc.start(l:O):yc l [] 0 0:=⟨ag _,λ_=>by simp[EZ],λh=>M0,ag _⟩
theorem CI{l:O}{b i:Nat}(U:b<=i)(hi:i<=l.length):(l.drop b).take (i-b)=[] ↔ b=i:=by
 rw[<-List.length_eq_zero_iff,aD,aj];omega
theorem yc.sign{l:O}{ws:List O}{b i:Nat}(h:yc l ws b i)(hi:i<l.length)(c:iW (G l[i])=false):yc l ws b (i+1):=by
 refine⟨by have:=h.le;omega,λ_=>?_,λI=>M0,by have:=h.n;omega⟩;have e:=h.go M0;rw[aC hi,up,gc (by rw[c];simp)]at e;have U:=h.le
 have a:(l.drop b).take (i+1-b)=(l.drop b).take (i-b)++[l[i]]:=by
  rw[show i+1-b=(i-b)+1 by omega,aH (by rw[aj];omega),M7]
  congr 3
  omega
 rw[a];exact e
theorem yc.blank{l:O}{ws:List O}{b i:Nat}(h:yc l ws b i)(hi:i<l.length)(a:iW (G l[i])=true):(b=i->yc l ws (i+1) (i+1))/\(b<i->yc l (ws++[(l.drop b).take (i-b)]) (i+1) (i+1)):=by
 have e:=h.go M0;rw[aC hi,up,ge a]at e;constructor
 ·intro U
  rw[ge ((CI h.le M0).mpr U)]at e;exact⟨ag _,λ_=>by rw[jy,jk];exact e,λI=>M0,by have:=h.n;omega⟩
 intro U;rw[gc (λI=>by have:=(CI h.le M0).mp I;omega)]at e;exact⟨ag _,λ_=>by rw[jy,jk,bB];exact e,λI=>M0,by rw[ae,dq];have:=h.n;omega⟩
theorem yc.last{l:O}{ws:List O}{b:Nat}(h:yc l ws b l.length):(b=l.length->yc l ws (l.length+1) (l.length+1))/\(b<l.length->yc l (ws++[(l.drop b).take (l.length-b)]) (l.length+1) (l.length+1)):=by
 have e:=h.go (ag _);rw[dF,up]at e;constructor
 ·intro U
  rw[ge ((CI h.le (ag _)).mpr U),aV]at e;exact⟨ag _,λI=>M0,λ_=>e,by have:=h.n;omega⟩
 intro U;rw[gc (λI=>by have:=(CI h.le (ag _)).mp I;omega)]at e;exact⟨ag _,λI=>M0,λ_=>e,by rw[ae,dq];have:=h.n;omega⟩
theorem b8v(ws:List O)(x:O):Strs (ws++[x])=Strs ws++[.string (E x)]:=by simp[Strs]
theorem a13(l:O)(w:H)(hl:l.length<=1024000000):Calls prog 12 #[.string (E l)] w (ga w 9 (Strs (EZ l))):=by
 obtain⟨i1,J,P,Q,R⟩:=info_parts lT;obtain⟨s,M⟩:=V (E l);have hsz:s.size=l.length:=by rw[M,aF]
 have D:∀k (hk:k<s.size) (L:k<l.length),((s[k]'hk).toNat:Int)=G l[k]:=λk hk L=>cy M hk L;have MU:=F (λa b=>show s.extract a b=E ((l.drop a).take (b-a)) by rw[M];exact cd l a b);rw[<-M];clear M;obtain⟨N,hN⟩:=V (s.size);have iP:s.size=N:=hN.symm;have oP:N<=1024000000:=M0;have iV:=F D;clear D;have v:=F (show l.length=N by omega);clear hsz hl hN;go_enter func12,ntmps12;go_wp2_with fail
 go_loopw [3,4,5] (λov bv iv wr=>∃(i b:Nat) (ws:List O),i<=N+1/\b<=i/\iv=.int .i64 i/\bv=.int .i64 b/\Hid (yc l ws b i)/\Hid (wr.ownsRow w.heap.size 9 1 ov ws.length (Strs ws))/\Hid (r7 w wr)) (λ_ _ iv _=>N+1-(intOf iv).toNat)
 exact⟨0,0,[],M0,M0,Oc,Oc,F (yc.start l),F (iZ _ _ _ _),F (gT _ _)⟩
 obtain⟨i,b,ws,hi,hbi,rfl,rfl,j,HO,HB⟩:=hrel;have hwz:w.heap.size<=wr.heap.size:=HB.o.size;have hex:=MU.o b i;obtain⟨x,nB⟩:=V ((l.drop b).take (i-b));have HX:=F nB;rw[<-nB]at hex;have mY:=F<|b8v ws x;have hwn:ws.length<=1024000001:=by have:=j.o.n;omega
 obtain⟨K,hK⟩:=V (ws.length);have B:=F hK;have C:=F (show wr.ownsRow w.heap.size 9 1 _ K (Strs ws) by rw[hK];exact HO.o);rw[<-hK]at hwn;have c8g:(b:Int)<=i:=M0;clear nB hK HO;by_cases hlt:i<N
 ·have hiu:i<s.size:=by omega
  have g:i<l.length:=by have:=v.o;omega
  have X:=iV.o i hiu g;have hiN:(i:Int)<=N:=M0;obtain⟨q,T⟩:=V (iW (G l[i]));have f:=λW=>fh (G l[i]) W;rw[<-T]at f;have r:=F<|λe=>j.o.sign g (T.symm.trans e);have t:=F<|λe=>j.o.blank g (T.symm.trans e);generalize G l[i]=X' at X f;have lZ:=F f;clear f T j g;cases q with
  |false =>
   have c:=F<|r.o rfl;clear r t hex
   go_wp2_with(go_at_call 34;refine(lZ.o _).e ?_)
   go_roundw
   exact⟨i+1,b,ws,M0,M0,by go_num,rfl,c,F (by rw[<-B.o];exact C.o),HB⟩
   exact aa
  |true =>
   have c:=F<|t.o rfl;clear r t;by_cases U:b=i
   ·have y:=F<|c.o.1 U
    have u:¬(b:Int)<i:=M0;clear c hex U
    go_wp2_with(go_at_call 34;refine(lZ.o _).e ?_)
    go_roundw
    exact⟨i+1,i+1,ws,M0,M0,by go_num,by go_num,y,F (by rw[<-B.o];exact C.o),HB⟩
    exact aa
   have y:=F<|c.o.2 M0;have u:(b:Int)<i:=M0;clear c U
   go_wp2_with(first|(go_at_call 34;refine(lZ.o _).e ?_)|(at_builtin;(refine et rfl 26 31 _ rfl w.heap.size 9 i1 (.string ⟨#[]⟩) 16 underlying22 J P Q R P8 _ _ _ (Strs ws) rfl C.o (.string (E x)) rfl rfl M0 P8 M0 ?_);intro v2 z hown2 hw2 d;have eJ:=F hown2;clear hown2;have p:=F d;clear d))
   go_roundw
   exact⟨i+1,i+1,ws++[x],M0,M0,by go_num,by go_num,F (by rw[HX.o];exact y.o),F (by rw[mY.o,ae,dq,<-B.o];exact eJ.o),F (HB.o.trans p.o)⟩
   exact aa
 by_cases he:i=N
 ·subst he
  have c:=F (by have h:=j.o;rw[<-v.o]at h;exact h.last);have hii:¬(i:Int)<i:=M0;clear j hlt;by_cases U:b=i
  ·have y:=F<|c.o.1 (by have:=v.o;omega)
   have u:¬(b:Int)<i:=M0;clear c hex U;go_wp2_with fail;go_roundw
   exact⟨i+1,i+1,ws,M0,M0,by go_num,by go_num,F (by have h:=y.o;rw[v.o]at h;exact h),F (by rw[<-B.o];exact C.o),HB⟩
   simp[intOf]
  have y:=F<|c.o.2 (by have:=v.o;omega);have u:(b:Int)<i:=M0;clear c U
  go_wp2_with(at_builtin;(refine et rfl 26 31 _ rfl w.heap.size 9 i1 (.string ⟨#[]⟩) 16 underlying22 J P Q R P8 _ _ _ (Strs ws) rfl C.o (.string (E x)) rfl rfl M0 P8 M0 ?_);intro v2 z hown2 hw2 d;have eJ:=F hown2;clear hown2;have p:=F d;clear d)
  go_roundw
  exact⟨i+1,i+1,ws++[x],M0,M0,by go_num,by go_num,F (by have h:=y.o;rw[v.o]at h;rw[HX.o];exact h),F (by rw[mY.o,ae,dq,<-B.o];exact eJ.o),F (HB.o.trans p.o)⟩
  simp[intOf]
 obtain rfl:i=N+1:=M0;have HR:=F<|j.o.no (by have:=v.o;omega);have hle:¬((N:Int)+1)<=N:=M0;clear j hex;go_wp2_with fail;go_ret;exact⟨_,rfl,by rw[HR.o];have h:=C.o;rw[B.o]at h;simpa using h,HB.o⟩

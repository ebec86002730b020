import Derived.Test.YtagfilhbpnjhkaaGreatDoorFGAthH
set_option maxRecDepth 10000
set_option maxHeartbeats 0
namespace Go.Proofs.Q
open Tryz Go.RowKit
theorem Zq(c:Int):E (enc c)=Utf8.encode c:=by unfold enc;rw[kt]
theorem Ok:∀p∈nd,p.2<128:=P8
theorem Oj(s:O):nN s<128:=by
 unfold nN;cases h:look nd s with
 |none=>exact(by decide:0<128)
 |some c=>exact Ok _ (lO h)
theorem Fw(s:O)(w:H):bF prog 194 #[.string (E s)] w (.tuple #[S ((iX s).getD []),.bool (iX s).isSome]):=by
 have j:=Oj s;have a:=λW=>Kq s W;obtain⟨c,i⟩:=V (nN s);rw[<-i]at a j;obtain⟨b,U⟩:=V (E s);have n:=F (show b.toList=s by rw[U,aB]);rw[<-U]at a⊢;clear U;by_cases k:c=0
 ·subst k
  have l:=fo (∀W,bF prog 223 #[.string b] W (.int .u8 0)) a;have p:=F i.symm;clear a j i;go_enter func194,ntmps194
  go_wp2_with(go_at_call 223;refine(l.o _).k λq f=>?_)
  all_goals
   have g:iX s=look rU s:=by unfold iX;rw[gc (by rw[p.o];exact λh=>h rfl)]
   simp only[n.o,beq_iff_eq,beq_eq_false_iff_ne,ne_eq]at *
   go_ret2
   refine⟨?_,f.o⟩
   first
    |(refine rk ?_;simp_all[rU,look];done)
    |(refine wC ?_;simp_all[rU,look];done)
 have l:=F a;have g:=F (show iX s=some (enc (c:Int)) by unfold iX;rw[<-i,ge k]);have hw:IntKind.i32.wrap (c:Int)=(c:Int):=by have:=IntWalk.i32_in (c:Int) M0;exact this
 have Y:¬(c:Int)=0:=M0;have I:((c:Int)==0)=false:=by simp;omega
 clear a i k;go_enter func194,ntmps194
 go_wp2_with(go_at_call 223;refine(l.o _).k λq f=>?_)
 go_ret2
 refine⟨?_,f.o⟩;rw[<-Zq];exact rk g.o
theorem DI(s:O):Lib.hasSuffix s [59]=decide (s.getLast? = some 59):=by
 cases hu:s.reverse with
 |nil =>
  have:s=[]:=by simpa using hu
  subst this;decide
 |cons x r =>
  have:s=r.reverse++[x]:=by
   have:=congrArg List.reverse hu
   simpa using this
  rw[this,Bi];unfold Lib.hasSuffix List.isSuffixOf;rw[jK,b2R];show((59==x)&&true)=_;rw[nk];by_cases h:x=59
  ·subst h;rfl
  rw[gh (by simpa using h)];simp only[beq_eq_false_iff_ne];exact λe=>h e.symm
theorem RX(s:O):Lib.trimSuffix s [59]=jm s:=by
 unfold Lib.trimSuffix jm;rw[DI];by_cases h:s.getLast? = some 59
 ·rw[gr h,ge rfl,ge h,iN];rfl
 rw[gh h,gc P8,gc h]
theorem RW(s:O)(w:H)(h:s.length<=1024000000):bP prog 171 #[.string (E s),.string ⟨#[59]⟩] w (.tuple #[S (jm s),.bool (decide (s.getLast? = some 59))]):=by
 have:=zU s [59] w h;rw[DI,RX]at this;exact this
theorem Fx(s:O)(w:H)(h:s.length<=1024000000):bF prog 147 #[.string (E s)] w (.tuple #[S ((fT s).getD []),.bool (fT s).isSome]):=by
 have a:=λW=>RW s W h;obtain⟨b,U,c,j⟩:=ac (E s) (jm s);obtain⟨cb,g⟩:=V (E c);have d:=λW=>Po c W;have f:=λW=>Fw c W;have x:S c=.string cb:=by rw[g]
 rw[<-U,<-j,x]at a;rw[<-g]at d f;rw[<-U];cases i:yv c with
 |some t =>
  obtain⟨M,l⟩:=V (E t);obtain⟨p,K,v,u⟩:=dT (show fT s=some t by unfold fT;rw[<-j,i]) l (show ∀W,bP prog 193 #[.string cb] W (.tuple #[.string M,.bool true])from λW=>by have:=d W;rw[i]at this;rw[l];exact this) a;clear a U j g d f x i l;go_enter func147,ntmps147
  go_wp2_with(first|(go_at_call 171;refine(u.o _).e ?_)|(go_at_call 193;refine(v.o _).e ?_))
  go_ret2
  refine⟨?_,gT _ _⟩;rw[K.o];exact rk p.o
 |none =>
  have v:=fo (∀W,bP prog 193 #[.string cb] W (.tuple #[.string ⟨#[]⟩,.bool false])) (λW=>by have:=d W;rw[i]at this;exact this);by_cases n:s.getLast? = some 59
  ·have p:=F (show fT s=iX c by unfold fT;rw[<-j,i];show(if s.getLast? = some 59 then iX c else none)=_;rw[ge n])
   rw[gr n]at a;obtain⟨o,B⟩:=V (iX c);obtain⟨D,z,J,k⟩:=ac (E (o.getD [])) (o.isSome);obtain⟨L,C,u⟩:=cZ (show ∀W,bF prog 194 #[.string cb] W (.tuple #[.string D,.bool J])from λW=>by rw[z,k,B];exact f W) (show D=E ((fT s).getD [])/\J=(fT s).isSome by rw[p.o,<-B];exact⟨z,k⟩) a;clear a U j g d f x i n B z k;go_enter func147,ntmps147
   go_wp2_with(first|(go_at_call 171;refine(u.o _).e ?_)|(go_at_call 193;refine(v.o _).e ?_)|(go_at_call 194;refine(L.o _).k λw3 y=>?_))
   go_ret2
   refine⟨?_,y.o⟩;rw[C.o.1,C.o.2];rfl
  have p:=F (show fT s=none by unfold fT;rw[<-j,i];show(if s.getLast? = some 59 then iX c else none)=_;rw[gc n]);rw[gh n]at a;have u:=F a;clear a U j g d f x i n;go_enter func147,ntmps147
  go_wp2_with(first|(go_at_call 171;refine(u.o _).e ?_)|(go_at_call 193;refine(v.o _).e ?_))
  go_ret2
  refine⟨?_,gT _ _⟩;exact wC p.o
theorem Cn(n:Int)(w:H):bF prog 192 #[.int .i64 n] w (S (iH n)):=by
 have i:=F<|λ(c:Int) W=>fK c W;have a:=F<|λW=>Mp n W;by_cases h:n=0
 ·subst h
  clear a;go_enter func192,ntmps192
  go_wp2_with(go_at_call 57;refine(i.o _ _).e ?_)
  go_ret;exact⟨rfl,gT _ _⟩
 have g:iH n=enc (tL n):=by unfold iH;rw[gc h]
 rw[g];generalize tL n=m at a⊢;clear g;have U:(n==0)=false:=by simpa using h
 go_enter func192,ntmps192
 go_wp2_with(first|(go_at_call 222;refine(a.o _).k λj f=>?_)|(go_at_call 57;refine(i.o _ _).e ?_))
 go_ret;exact⟨rfl,f.o⟩

theorem uu{c:Int}:(48<=c/\c<=57->fg c 10=c-48)/\(¬(48<=c/\c<=57)->fg c 10=-1):=by
 constructor
 ·intro h
  simp only[fg,ge h];rw[gc M0]
 intro h;simp only[fg,gc h]
 split
 ·rw[ge M0]
 split
 ·rw[ge M0]
 rw[gc M0]
theorem Fo(c base:Int)(U:1<=base):-1<=fg c base/\fg c base<base:=by
 simp only[fg]
 split
 ·split <;>omega
 split
 ·split <;>omega
 split
 ·split <;>omega
 split <;>omega
theorem Pu(x:UInt8)(w:H):bP prog 148 #[.int .u8 (G x)] w (.bool (yz x)):=by
 have r:=gH x;have n:yz x=(iQ (G x)||decide (48<=G x/\G x<=57)||decide (x=61)):=rfl
 have f:decide (x=61)=decide (G x=61):=by
  rw[decide_eq_decide];constructor
  ·intro h;rw[h];rfl
  intro h;have:x.toNat=61:=by unfold G at h;omega
  exact eZ.mp this
 rw[f]at n;rw[n];clear f n;generalize G x=c at r⊢;have hle:=λW=>kD c W;have a:=λW=>dm c 10 W ⟨M0,M0⟩ P8;cases i:iQ c with
 |true =>
  rw[i]at hle;have j:=F hle;clear hle a i;go_enter func148,ntmps148
  go_wp2_with(go_at_call 117;refine(j.o _).e ?_)
  go_ret;exact⟨Oc,rfl⟩
 |false =>
  rw[i]at hle;by_cases hd:48<=c/\c<=57
  ·rw[(uu (c:=c)).1 hd]at a
   obtain⟨d,g⟩:=V (c-48);rw[<-g]at a;have hd0:0<=d:=M0;obtain⟨l,j,p⟩:=cZ (show(false||decide (48<=c/\c<=57)||decide (c=61))=true by rw[gr hd];rfl) hle a;clear hle a i hd g;go_enter func148,ntmps148
   go_wp2_with(first|(go_at_call 117;refine(j.o _).e ?_)|(go_at_call 93;refine(p.o _).e ?_))
   go_ret;exact⟨by rw[l.o];rfl,rfl⟩
  rw[(uu (c:=c)).2 hd]at a;obtain⟨l,j,p⟩:=cZ (show(false||decide (48<=c/\c<=57)||decide (c=61))=(c==61) by rw[gh hd];by_cases h:c=61 <;>simp[h]) hle a;clear hle a i hd;go_enter func148,ntmps148
  go_wp2_with(first|(go_at_call 117;refine(j.o _).e ?_)|(go_at_call 93;refine(p.o _).e ?_))
  all_goals
   go_ret;exact⟨by rw[l.o];simp_all,rfl⟩
theorem mM{s:O}{B n:Int}{f j:Nat}(hf:f<=j)(h:mB B 0 (s.drop f)=(n,j-f)):Er s B f=if j=f then([38],1)else(iH n,j+(if s[j]?= some 59 then 1 else 0)):=by
 unfold Er;rw[h];dsimp only;by_cases he:j=f
 ·rw[ge M0,ge he]
 rw[gc M0,gc he,show f+(j-f)=j by omega]
theorem zW{s:O}{B n:Int}{j:Nat}(h:j<s.length):mB B n (s.drop j)=if fg (G s[j]) B<0 then(n,0)else((mB B (uU (n*B+fg (G s[j]) B)) (s.drop (j+1))).1,(mB B (uU (n*B+fg (G s[j]) B)) (s.drop (j+1))).2+1):=by
 rw[aC h];rfl
theorem Ij(x:UInt8):x=59 ↔ G x=59:=by
 constructor
 ·intro h;rw[h];rfl
 intro h;have:x.toNat=59:=by unfold G at h;omega
 exact eZ.mp this
theorem Aw(s:O)(w:H)(hs2:2<=s.length)(hL:s.length<=900000000):bF prog 146 #[.string (E s)] w (.tuple #[S (vY s).1,.int .i64 ((vY s).2:Nat)]):=by
 have zE:=F<|λ(n:Int) W=>Cn n W
 have hcase:(∃h:2<s.length,s[2]=120)\/(∃h:2<s.length,s[2]=88)\/(∃h:2<s.length,s[2]≠120/\s[2]≠88)\/s.length=2:=by
  by_cases h:2<s.length
  ·by_cases Y:s[2]=120
   ·exact .inl ⟨h,Y⟩
   by_cases I:s[2]=88
   ·exact .inr (.inl ⟨h,I⟩)
   exact .inr (.inr (.inl ⟨h,Y,I⟩))
  exact .inr (.inr (.inr M0))
 obtain⟨b,U,N,PE,P,hR2,L,hl⟩:=aA (E s) ((vY s).1) ((vY s).2) (s.length);have hsz:b.size=L:=by rw[U,aF,hl]
 rw[<-U,<-PE,<-hR2];have T:=fo (L=s.length/\b=E s) ⟨hl,U⟩;have l:=fo (N=(vY s).1/\P=(vY s).2) ⟨PE,hR2⟩;rw[<-hl]at hs2 hL;clear U PE hR2;rcases hcase with⟨h,X⟩|⟨h,X⟩|⟨h,X,hy⟩|h
 ·have h2b:2<b.size:=by omega
  have hz:=cy T.o.2 h2b h;rw[X,show G 120=120 from rfl]at hz;have HN:=F (show vY s=Er s 16 3 by unfold vY;rw[ge (by unfold FT;rw[gx,aG h,X];exact .inl rfl)]);have hL3:3<=L:=M0;clear X h;clear hl;go_enter func146,ntmps146;go_wp2_with fail
  go_loopw [6,7,8] (λnv iv _ wr=>∃(n:Int) (j:Nat),3<=j/\j<=L/\0<=n/\n<=1114112/\nv=.int .i64 n/\iv=.int .i64 j/\Hid (mB 16 0 (s.drop 3)=((mB 16 n (s.drop j)).1,(mB 16 n (s.drop j)).2+(j-3)))/\wr=w) (λ_ i _ _=>L-(intOf i).toNat)
  exact⟨0,3,ag _,M0,P8,P8,rfl,rfl,F (by rw[jy];rfl),rfl⟩
  obtain⟨n,j,D,hjL,hn0,hn1,rfl,rfl,J,rfl⟩:=hrel;by_cases hlt:j<L
  ·have t:j<s.length:=by have:=T.o.1;omega
   have r:j<b.size:=M0;have c:=cy T.o.2 r t;have a:=J.o;rw[zW t]at a;have u:=Fo (G s[j]) 16 P8;have C:=gH s[j];have k:=λW=>dm (G s[j]) 16 W ⟨C.1,M0⟩ P8;obtain⟨d,hd⟩:=V (fg (G s[j]) 16);rw[<-hd]at a u k;by_cases hneg:d<0
   ·rw[ge hneg]at a
    have q:=fo (∀W,pa prog 93 #[.int .u8 ((b[j]'r).toNat:Int),.int .i64 16] W (.int .i64 d)) (λW=>by rw[c];exact k W);have g:=F<|(HN.o).trans (mM (B:=16) (n:=n) D (by rw[a];simp));clear a k hd u C J;by_cases p:j=3
    ·subst p
     have f:=F (show N=[38]/\P=1 by rw[l.o.1,l.o.2,g.o];exact⟨rfl,rfl⟩);clear g c
     go_wp2_with(go_at_call 93;refine(q.o _).e ?_)
     go_ret2
     exact⟨by rw[f.o.1,f.o.2];rfl,gT _ _⟩
    have qjf:((j:Int)==3)=false:=by simp;omega
    have PY:¬(j:Int)=3:=M0;by_cases K:s[j]=59
    ·have f:=F (show N=iH n/\P=j+1 by rw[l.o.1,l.o.2,g.o,gc p,aG t,K];exact⟨rfl,rfl⟩)
     have X:((b[j]'r).toNat:Int)=59:=by rw[c,K];rfl
     replace q:=fo (∀W,pa prog 93 #[.int .u8 59,.int .i64 16] W (.int .i64 d)) (λW=>by have:=q.o W;rw[X]at this;exact this);clear g K c p
     go_wp2_with(first|(go_at_call 192;refine(zE.o _ _).k λw9 R=>?_)|(go_at_call 93;refine(q.o _).e ?_))
     go_ret2
     exact⟨by rw[f.o.1,f.o.2];rfl,R.o⟩
    have f:=F (show N=iH n/\P=j by rw[l.o.1,l.o.2,g.o,gc p,aG t,gc (λh=>K (bj h))];exact⟨rfl,rfl⟩);have GG:(G s[j]==59)=false:=by simp;exact λh=>K ((Ij _).2 h)
    obtain⟨z,hz⟩:=V (G s[j]);rw[<-hz]at GG c;replace q:=fo (∀W,pa prog 93 #[.int .u8 z,.int .i64 16] W (.int .i64 d)) (λW=>by have:=q.o W;rw[c]at this;exact this);clear g K hz p
    go_wp2_with(first|(go_at_call 192;refine(zE.o _ _).k λw9 R=>?_)|(go_at_call 93;refine(q.o _).e ?_))
    go_ret2
    exact⟨by rw[f.o.1,f.o.2];rfl,R.o⟩
   rw[gc hneg]at a;dsimp only at a;have q:=fo (∀W,pa prog 93 #[.int .u8 ((b[j]'r).toNat:Int),.int .i64 16] W (.int .i64 d)) (λW=>by rw[c];exact k W);obtain⟨m1,v⟩:=V (n*16);obtain⟨m2,x⟩:=V (m1+d);have hw1:IntKind.i64.wrap (n*16)=m1:=by rw[v];exact gS _ M0
   have hw2:IntKind.i64.wrap (m1+d)=m2:=by rw[x];exact gS _ M0
   rw[<-v,<-x]at a;obtain⟨M,y⟩:=V (uU m2);have hmin:min m2 1114112=M:=by rw[y];unfold uU;split <;>omega
   have Q:0<=M/\M<=1114112:=M0;rw[<-y]at a;have HI2:=fo (mB 16 0 (s.drop 3)=((mB 16 M (s.drop (j+1))).1,(mB 16 M (s.drop (j+1))).2+(j+1-3))) (a.trans (by rw[show j+1-3=1+(j-3) by omega,<-Nat.add_assoc]));clear a k hd u C J c v x y
   go_wp2_with(go_at_call 93;refine(q.o _).e ?_)
   go_roundw
   exact⟨M,j+1,M0,M0,Q.1,Q.2,rfl,by go_num,HI2,by trivial⟩
   exact aa
  obtain rfl:j=L:=M0;have g:=F<|(HN.o).trans (mM (B:=16) (n:=n) D (by rw[J.o,show s.drop j=[]from by rw[T.o.1,dF]];simp[mB]));clear J;by_cases p:j=3
  ·subst p
   have f:=F (show N=[38]/\P=1 by rw[l.o.1,l.o.2,g.o];exact⟨rfl,rfl⟩);clear g;go_wp2_with fail
   go_ret2
   exact⟨by rw[f.o.1,f.o.2];rfl,gT _ _⟩
  have qjf:((j:Int)==3)=false:=by simp;omega
  have PY:¬(j:Int)=3:=M0;have f:=F (show N=iH n/\P=j by rw[l.o.1,l.o.2,g.o,gc p,eC (by have:=T.o.1;omega)];exact⟨rfl,rfl⟩);clear g p
  go_wp2_with(go_at_call 192;refine(zE.o _ _).k λw9 R=>?_)
  go_ret2
  exact⟨by rw[f.o.1,f.o.2];rfl,R.o⟩
 ·have h2b:2<b.size:=by omega
  have hz:=cy T.o.2 h2b h;rw[X,show G 88=88 from rfl]at hz;have HN:=F (show vY s=Er s 16 3 by unfold vY;rw[ge (by unfold FT;rw[gx,aG h,X];exact .inr rfl)]);have hL3:3<=L:=M0;clear X h;clear hl;go_enter func146,ntmps146;go_wp2_with fail
  go_loopw [6,7,8] (λnv iv _ wr=>∃(n:Int) (j:Nat),3<=j/\j<=L/\0<=n/\n<=1114112/\nv=.int .i64 n/\iv=.int .i64 j/\Hid (mB 16 0 (s.drop 3)=((mB 16 n (s.drop j)).1,(mB 16 n (s.drop j)).2+(j-3)))/\wr=w) (λ_ i _ _=>L-(intOf i).toNat)
  exact⟨0,3,ag _,M0,P8,P8,rfl,rfl,F (by rw[jy];rfl),rfl⟩
  obtain⟨n,j,D,hjL,hn0,hn1,rfl,rfl,J,rfl⟩:=hrel;by_cases hlt:j<L
  ·have t:j<s.length:=by have:=T.o.1;omega
   have r:j<b.size:=M0;have c:=cy T.o.2 r t;have a:=J.o;rw[zW t]at a;have u:=Fo (G s[j]) 16 P8;have C:=gH s[j];have k:=λW=>dm (G s[j]) 16 W ⟨C.1,M0⟩ P8;obtain⟨d,hd⟩:=V (fg (G s[j]) 16);rw[<-hd]at a u k;by_cases hneg:d<0
   ·rw[ge hneg]at a
    have q:=fo (∀W,pa prog 93 #[.int .u8 ((b[j]'r).toNat:Int),.int .i64 16] W (.int .i64 d)) (λW=>by rw[c];exact k W);have g:=F<|(HN.o).trans (mM (B:=16) (n:=n) D (by rw[a];simp));clear a k hd u C J;by_cases p:j=3
    ·subst p
     have f:=F (show N=[38]/\P=1 by rw[l.o.1,l.o.2,g.o];exact⟨rfl,rfl⟩);clear g c
     go_wp2_with(go_at_call 93;refine(q.o _).e ?_)
     go_ret2
     exact⟨by rw[f.o.1,f.o.2];rfl,gT _ _⟩
    have qjf:((j:Int)==3)=false:=by simp;omega
    have PY:¬(j:Int)=3:=M0;by_cases K:s[j]=59
    ·have f:=F (show N=iH n/\P=j+1 by rw[l.o.1,l.o.2,g.o,gc p,aG t,K];exact⟨rfl,rfl⟩)
     have X:((b[j]'r).toNat:Int)=59:=by rw[c,K];rfl
     replace q:=fo (∀W,pa prog 93 #[.int .u8 59,.int .i64 16] W (.int .i64 d)) (λW=>by have:=q.o W;rw[X]at this;exact this);clear g K c p
     go_wp2_with(first|(go_at_call 192;refine(zE.o _ _).k λw9 R=>?_)|(go_at_call 93;refine(q.o _).e ?_))
     go_ret2
     exact⟨by rw[f.o.1,f.o.2];rfl,R.o⟩
    have f:=F (show N=iH n/\P=j by rw[l.o.1,l.o.2,g.o,gc p,aG t,gc (λh=>K (bj h))];exact⟨rfl,rfl⟩);have GG:(G s[j]==59)=false:=by simp;exact λh=>K ((Ij _).2 h)
    obtain⟨z,hz⟩:=V (G s[j]);rw[<-hz]at GG c;replace q:=fo (∀W,pa prog 93 #[.int .u8 z,.int .i64 16] W (.int .i64 d)) (λW=>by have:=q.o W;rw[c]at this;exact this);clear g K hz p
    go_wp2_with(first|(go_at_call 192;refine(zE.o _ _).k λw9 R=>?_)|(go_at_call 93;refine(q.o _).e ?_))
    go_ret2
    exact⟨by rw[f.o.1,f.o.2];rfl,R.o⟩
   rw[gc hneg]at a;dsimp only at a;have q:=fo (∀W,pa prog 93 #[.int .u8 ((b[j]'r).toNat:Int),.int .i64 16] W (.int .i64 d)) (λW=>by rw[c];exact k W);obtain⟨m1,v⟩:=V (n*16);obtain⟨m2,x⟩:=V (m1+d);have hw1:IntKind.i64.wrap (n*16)=m1:=by rw[v];exact gS _ M0
   have hw2:IntKind.i64.wrap (m1+d)=m2:=by rw[x];exact gS _ M0
   rw[<-v,<-x]at a;obtain⟨M,y⟩:=V (uU m2);have hmin:min m2 1114112=M:=by rw[y];unfold uU;split <;>omega
   have Q:0<=M/\M<=1114112:=M0;rw[<-y]at a;have HI2:=fo (mB 16 0 (s.drop 3)=((mB 16 M (s.drop (j+1))).1,(mB 16 M (s.drop (j+1))).2+(j+1-3))) (a.trans (by rw[show j+1-3=1+(j-3) by omega,<-Nat.add_assoc]));clear a k hd u C J c v x y
   go_wp2_with(go_at_call 93;refine(q.o _).e ?_)
   go_roundw
   exact⟨M,j+1,M0,M0,Q.1,Q.2,rfl,by go_num,HI2,by trivial⟩
   exact aa
  obtain rfl:j=L:=M0;have g:=F<|(HN.o).trans (mM (B:=16) (n:=n) D (by rw[J.o,show s.drop j=[]from by rw[T.o.1,dF]];simp[mB]));clear J;by_cases p:j=3
  ·subst p
   have f:=F (show N=[38]/\P=1 by rw[l.o.1,l.o.2,g.o];exact⟨rfl,rfl⟩);clear g;go_wp2_with fail
   go_ret2
   exact⟨by rw[f.o.1,f.o.2];rfl,gT _ _⟩
  have qjf:((j:Int)==3)=false:=by simp;omega
  have PY:¬(j:Int)=3:=M0;have f:=F (show N=iH n/\P=j by rw[l.o.1,l.o.2,g.o,gc p,eC (by have:=T.o.1;omega)];exact⟨rfl,rfl⟩);clear g p
  go_wp2_with(go_at_call 192;refine(zE.o _ _).k λw9 R=>?_)
  go_ret2
  exact⟨by rw[f.o.1,f.o.2];rfl,R.o⟩
 ·have h2b:2<b.size:=by omega
  have hz:=cy T.o.2 h2b h;have b0j:(G s[2]==120)=false:=by simp;exact λe=>X (eZ.mp (by unfold G at e;show s[2].toNat=120;omega))
  have q88:(G s[2]==88)=false:=by simp;exact λe=>hy (eZ.mp (by unfold G at e;show s[2].toNat=88;omega))
  have HN:=F (show vY s=Er s 10 2 by unfold vY;rw[gc (by unfold FT;rw[gx,aG h];exact λe=>e.elim (λe=>X (bj e)) (λe=>hy (bj e)))]);have hL2:2<L:=M0;generalize G s[2]=Z' at hz b0j q88;clear X hy h;clear hl;go_enter func146,ntmps146;go_wp2_with fail
  go_loopw [6,7,8] (λnv iv _ wr=>∃(n:Int) (j:Nat),2<=j/\j<=L/\0<=n/\n<=1114112/\nv=.int .i64 n/\iv=.int .i64 j/\Hid (mB 10 0 (s.drop 2)=((mB 10 n (s.drop j)).1,(mB 10 n (s.drop j)).2+(j-2)))/\wr=w) (λ_ i _ _=>L-(intOf i).toNat)
  exact⟨0,2,ag _,M0,P8,P8,rfl,rfl,F (by rw[jy];rfl),rfl⟩
  obtain⟨n,j,D,hjL,hn0,hn1,rfl,rfl,J,rfl⟩:=hrel;by_cases hlt:j<L
  ·have t:j<s.length:=by have:=T.o.1;omega
   have r:j<b.size:=M0;have c:=cy T.o.2 r t;have a:=J.o;rw[zW t]at a;have u:=Fo (G s[j]) 10 P8;have C:=gH s[j];have k:=λW=>dm (G s[j]) 10 W ⟨C.1,M0⟩ P8;obtain⟨d,hd⟩:=V (fg (G s[j]) 10);rw[<-hd]at a u k;by_cases hneg:d<0
   ·rw[ge hneg]at a
    have q:=fo (∀W,pa prog 93 #[.int .u8 ((b[j]'r).toNat:Int),.int .i64 10] W (.int .i64 d)) (λW=>by rw[c];exact k W);have g:=F<|(HN.o).trans (mM (B:=10) (n:=n) D (by rw[a];simp));clear a k hd u C J;by_cases p:j=2
    ·subst p
     have f:=F (show N=[38]/\P=1 by rw[l.o.1,l.o.2,g.o];exact⟨rfl,rfl⟩);clear g c;replace q:=fo (∀W,pa prog 93 #[.int .u8 Z',.int .i64 10] W (.int .i64 d)) (λW=>by have:=q.o W;rw[hz]at this;exact this)
     go_wp2_with(go_at_call 93;refine(q.o _).e ?_)
     go_ret2
     exact⟨by rw[f.o.1,f.o.2];rfl,gT _ _⟩
    have qjf:((j:Int)==2)=false:=by simp;omega
    have PY:¬(j:Int)=2:=M0;by_cases K:s[j]=59
    ·have f:=F (show N=iH n/\P=j+1 by rw[l.o.1,l.o.2,g.o,gc p,aG t,K];exact⟨rfl,rfl⟩)
     have X:((b[j]'r).toNat:Int)=59:=by rw[c,K];rfl
     replace q:=fo (∀W,pa prog 93 #[.int .u8 59,.int .i64 10] W (.int .i64 d)) (λW=>by have:=q.o W;rw[X]at this;exact this);clear g K c p
     go_wp2_with(first|(go_at_call 192;refine(zE.o _ _).k λw9 R=>?_)|(go_at_call 93;refine(q.o _).e ?_))
     go_ret2
     exact⟨by rw[f.o.1,f.o.2];rfl,R.o⟩
    have f:=F (show N=iH n/\P=j by rw[l.o.1,l.o.2,g.o,gc p,aG t,gc (λh=>K (bj h))];exact⟨rfl,rfl⟩);have GG:(G s[j]==59)=false:=by simp;exact λh=>K ((Ij _).2 h)
    obtain⟨z,hz⟩:=V (G s[j]);rw[<-hz]at GG c;replace q:=fo (∀W,pa prog 93 #[.int .u8 z,.int .i64 10] W (.int .i64 d)) (λW=>by have:=q.o W;rw[c]at this;exact this);clear g K hz p
    go_wp2_with(first|(go_at_call 192;refine(zE.o _ _).k λw9 R=>?_)|(go_at_call 93;refine(q.o _).e ?_))
    go_ret2
    exact⟨by rw[f.o.1,f.o.2];rfl,R.o⟩
   rw[gc hneg]at a;dsimp only at a;have q:=fo (∀W,pa prog 93 #[.int .u8 ((b[j]'r).toNat:Int),.int .i64 10] W (.int .i64 d)) (λW=>by rw[c];exact k W);obtain⟨m1,v⟩:=V (n*10);obtain⟨m2,x⟩:=V (m1+d);have hw1:IntKind.i64.wrap (n*10)=m1:=by rw[v];exact gS _ M0
   have hw2:IntKind.i64.wrap (m1+d)=m2:=by rw[x];exact gS _ M0
   rw[<-v,<-x]at a;obtain⟨M,y⟩:=V (uU m2);have hmin:min m2 1114112=M:=by rw[y];unfold uU;split <;>omega
   have Q:0<=M/\M<=1114112:=M0;rw[<-y]at a;have HI2:=fo (mB 10 0 (s.drop 2)=((mB 10 M (s.drop (j+1))).1,(mB 10 M (s.drop (j+1))).2+(j+1-2))) (a.trans (by rw[show j+1-2=1+(j-2) by omega,<-Nat.add_assoc]));clear a k hd u C J c v x y
   go_wp2_with(go_at_call 93;refine(q.o _).e ?_)
   go_roundw
   exact⟨M,j+1,M0,M0,Q.1,Q.2,rfl,by go_num,HI2,by trivial⟩
   exact aa
  obtain rfl:j=L:=M0;have g:=F<|(HN.o).trans (mM (B:=10) (n:=n) D (by rw[J.o,show s.drop j=[]from by rw[T.o.1,dF]];simp[mB]));clear J;by_cases p:j=2
  ·subst p
   have f:=F (show N=[38]/\P=1 by rw[l.o.1,l.o.2,g.o];exact⟨rfl,rfl⟩);clear g;go_wp2_with fail
   go_ret2
   exact⟨by rw[f.o.1,f.o.2];rfl,gT _ _⟩
  have qjf:((j:Int)==2)=false:=by simp;omega
  have PY:¬(j:Int)=2:=M0;have f:=F (show N=iH n/\P=j by rw[l.o.1,l.o.2,g.o,gc p,eC (by have:=T.o.1;omega)];exact⟨rfl,rfl⟩);clear g p
  go_wp2_with(go_at_call 192;refine(zE.o _ _).k λw9 R=>?_)
  go_ret2
  exact⟨by rw[f.o.1,f.o.2];rfl,R.o⟩
 have HN:=F (show vY s=Er s 10 2 by unfold vY;rw[gc (by unfold FT;rw[gx,eC M0];rintro(e|e) <;>cases e)]);have hL2:¬ 2<L:=M0;clear h;clear hl;go_enter func146,ntmps146;go_wp2_with fail
 go_loopw [6,7,8] (λnv iv _ wr=>∃(n:Int) (j:Nat),2<=j/\j<=L/\0<=n/\n<=1114112/\nv=.int .i64 n/\iv=.int .i64 j/\Hid (mB 10 0 (s.drop 2)=((mB 10 n (s.drop j)).1,(mB 10 n (s.drop j)).2+(j-2)))/\wr=w) (λ_ i _ _=>L-(intOf i).toNat)
 exact⟨0,2,ag _,M0,P8,P8,rfl,rfl,F (by rw[jy];rfl),rfl⟩
 obtain⟨n,j,D,hjL,hn0,hn1,rfl,rfl,J,rfl⟩:=hrel;by_cases hlt:j<L
 ·omega
 obtain rfl:j=L:=M0;have g:=F<|(HN.o).trans (mM (B:=10) (n:=n) D (by rw[J.o,show s.drop j=[]from by rw[T.o.1,dF]];simp[mB]));clear J;by_cases p:j=2
 ·subst p
  have f:=F (show N=[38]/\P=1 by rw[l.o.1,l.o.2,g.o];exact⟨rfl,rfl⟩);clear g;go_wp2_with fail
  go_ret2
  exact⟨by rw[f.o.1,f.o.2];rfl,gT _ _⟩
 omega

theorem GJ{s:O}{n:Nat}(h:fT ((s.drop 1).take (n+1))=none):iC s (n+1)=iC s n:=by rw[iC,h]
theorem GK{s t:O}{n:Nat}(h:fT ((s.drop 1).take (n+1))=some t):iC s (n+1)=if VL s (n+1)=true then([38],1)else(t,n+2):=by rw[iC,h]
theorem Ra{s:O}{n:Nat}(h:n<s.length)(e:s[n]=59):VL s n=false:=by
 unfold VL;rw[aG h,e];rfl
theorem VM{s:O}{n:Nat}(h:s.length<=n+1):VL s n=false:=by
 unfold VL;rw[eC (i:=n+1) h];exact Bool.and_false _
theorem a0x{s:O}{n:Nat}(h:n+1<s.length)(e:s[n]≠59):VL s n=yz s[n+1]:=by
 unfold VL;rw[aG (show n<s.length by omega),aG h,gr (p:=some s[n]≠some 59) (λx=>e (bj x)),Ev]
theorem xG(s:O)(w:H)(Y:1<=s.length)(hL:s.length<=900000000):bF prog 99 #[.string (E s)] w (.tuple #[S (gX s).1,.int .i64 ((gX s).2:Nat)]):=by
 have d:=λW=>mE s [38,35] W;by_cases hp:Lib.hasPrefix s [38,35]=true
 ·have I:2<=s.length:=by
   unfold Lib.hasPrefix at hp;have:=(ej.mp hp).length_le
   simpa using this
  have Q:=λW=>Aw s W I hL;rw[show gX s=vY s by unfold gX;rw[ge hp]];rw[hp]at d;obtain⟨J,D,K,g,b,U⟩:=ax ((vY s).1) ((vY s).2) (E s);rw[<-D,<-g,<-U]at Q;rw[<-D,<-g,<-U];rw[<-U]at d;have HP:=fo (∀W,bP prog 83 #[.string b,.string ⟨#[38,35]⟩] W (.bool true)) d;have MW:=F Q;clear d Q D g U hp;go_enter func99,ntmps99
  go_wp2_with(first|(go_at_call 83;refine(HP.o _).e ?_)|(go_at_call 146;refine(MW.o _).k λw2 a=>?_))
  go_ret2
  exact⟨rfl,a.o⟩
 have hpf:Lib.hasPrefix s [38,35]=false:=by simpa using hp
 rw[hpf]at d;have hrf:gX s=iC s (min 15 (s.length-1)):=by unfold gX;rw[gc hp]
 obtain⟨J,D,K,g,b,U,L,hl⟩:=aA ((gX s).1) ((gX s).2) (E s) (s.length);have hsz:b.size=L:=by rw[U,aF,hl]
 obtain⟨m0,P⟩:=V (min 15 (L-1));have hmi:IntKind.i64.wrap ((L:Int)-1)=((L-1:Nat):Int):=by rw[show(L:Int)-1=((L-1:Nat):Int) by omega];exact gS _ M0
 obtain⟨L1,N⟩:=V (L-1:Nat);rw[<-N]at hmi P;have hmin:min 15 (L1:Int)=(m0:Int):=M0;have hmL:m0<=L1:=M0;rw[<-D,<-g,<-U];rw[<-U]at d;obtain⟨HP,HR,u,M,J5⟩:=ec (show ∀W,bP prog 83 #[.string b,.string ⟨#[38,35]⟩] W (.bool false)from d) (show gX s=iC s m0 by rw[hrf,P,N,hl]) (show J=(gX s).1/\K=(gX s).2 from⟨D,g⟩) (show L=s.length/\b=E s from⟨hl,U⟩) (show L1+1=L by omega);rw[<-hl]at hL;clear d D g U hp hpf hrf hl P N Y;go_enter func99,ntmps99
 go_wp2_with(go_at_call 83;refine(HP.o _).e ?_)
 clear hmi hmin
 go_loopw [4,5,6] (λiv _ _ wr=>∃n:Nat,n<=L1/\iv=.int .i64 n/\Hid (gX s=iC s n)/\Hid (r7 w wr)) (λi _ _ _=>(intOf i).toNat)
 exact⟨m0,hmL,rfl,HR,F (gT _ _)⟩
 obtain⟨n,hn,rfl,HG,HB⟩:=hrel;by_cases r:n=0
 ·subst r
  have p:=F (show J=[38]/\K=1 by rw[u.o.1,u.o.2,HG.o];exact⟨rfl,rfl⟩);go_wp2_with fail
  go_ret2
  exact⟨by rw[p.o.1,p.o.2];rfl,HB.o⟩
 obtain⟨m,hm⟩:∃m,n=m+1:=⟨n-1,M0⟩;have hnp:0<n:=M0;have hnL:n<L:=by have:=J5.o;omega
 obtain⟨f,k⟩:=V (n+1:Nat);have hw1:IntKind.i64.wrap ((n:Int)+1)=(f:Int):=by rw[show(n:Int)+1=(f:Int) by omega];exact gS _ M0
 have b4K:1<=f:=M0;have b4L:f<=L:=M0;obtain⟨tb,l⟩:=V (E ((s.drop 1).take n));have hex:b.extract 1 f=tb:=by rw[M.o.2,cd,l,k];rfl
 have c:=λW=>Fx ((s.drop 1).take n) W (by rw[aD];have:=M.o.1;omega);rw[<-l]at c;cases v:fT ((s.drop 1).take n)with
 |none =>
  rw[v]at c;have mX:=fo (∀W,bF prog 147 #[.string tb] W (.tuple #[.string ⟨#[]⟩,.bool false])) c;have HG2:=F (show gX s=iC s m by rw[HG.o,hm];exact GJ (by rw[<-hm];exact v));have hw2:IntKind.i64.wrap ((n:Int)-1)=(m:Int):=by rw[show(n:Int)-1=(m:Int) by omega];exact gS _ M0
  have a9L:m<=L1:=M0;have HM:=F (show m<n by omega);clear c l v hm k r
  go_wp2_with(go_at_call 147;refine(mX.o _).k λw2 U=>?_;have a:=F<|HB.o.trans (U.o.m HB.o.size);clear U)
  go_roundw
  exact⟨m,a9L,rfl,HG2,a⟩
  have:=HM.o;simp[intOf];omega
 |some t =>
  rw[v]at c;obtain⟨tt,T⟩:=V (E t);have mX:=fo (∀W,bF prog 147 #[.string tb] W (.tuple #[.string tt,.bool true])) (λW=>by rw[T];exact c W);have q:=HG.o;rw[hm,GK (by rw[<-hm];exact v),<-hm,show m+2=f by omega]at q;have TT:=F T;have hsl:n<s.length:=by have:=M.o.1;omega
  have hbl:n<b.size:=M0;have X:=cy M.o.2 hbl hsl;by_cases B:s[n]=59
  ·rw[Ra hsl B,gc P8]at q
   have p:=F (show J=t/\K=f by rw[u.o.1,u.o.2,q];exact⟨rfl,rfl⟩);rw[B,show G 59=59 from rfl]at X;clear c l v hm k r T q B
   go_wp2_with(go_at_call 147;refine(mX.o _).k λw2 U=>?_;have a:=F<|HB.o.trans (U.o.m HB.o.size);clear U)
   go_ret2
   exact⟨by rw[p.o.1,p.o.2,TT.o];rfl,a.o⟩
  have GG:(G s[n]==59)=false:=by simp;exact λh=>B ((Ij _).2 h)
  obtain⟨z,hz⟩:=V (G s[n]);rw[<-hz]at GG X;have b4e:¬z=59:=by simpa using GG
  by_cases hlast:f<L
  ·have hsl1:f<s.length:=by have:=M.o.1;omega
   have a9p:f<b.size:=M0;have hx1:=cy M.o.2 a9p hsl1
   have R:VL s n=yz s[f]:=by
    have:=a0x (s:=s) (n:=n) M0 B;rw[this]
    congr 1
    exact getElem_congr rfl k.symm _
   rw[R]at q;have j:=λW=>Pu s[f] W;obtain⟨y,hy⟩:=V (G s[f]);rw[<-hy]at hx1 j;cases hq:yz s[f]with
   |true =>
    rw[hq]at q j;have C:=F j;have p:=F (show J=[38]/\K=1 by rw[u.o.1,u.o.2,q];exact⟨rfl,rfl⟩);clear c l v hm k r T q B hz R j hq hy
    go_wp2_with(first|(go_at_call 147;refine(mX.o _).k λw2 U=>?_;have a:=F<|HB.o.trans (U.o.m HB.o.size);clear U)|(go_at_call 148;refine(C.o _).e ?_))
    go_ret2
    exact⟨by rw[p.o.1,p.o.2];rfl,a.o⟩
   |false =>
    rw[hq]at q j;have C:=F j;have p:=F (show J=t/\K=f by rw[u.o.1,u.o.2,q];exact⟨rfl,rfl⟩);clear c l v hm k r T q B hz R j hq hy
    go_wp2_with(first|(go_at_call 147;refine(mX.o _).k λw2 U=>?_;have a:=F<|HB.o.trans (U.o.m HB.o.size);clear U)|(go_at_call 148;refine(C.o _).e ?_))
    go_ret2
    exact⟨by rw[p.o.1,p.o.2,TT.o];rfl,a.o⟩
  rw[VM (by have:=M.o.1;omega),gc P8]at q;have p:=F (show J=t/\K=f by rw[u.o.1,u.o.2,q];exact⟨rfl,rfl⟩);have a9I:¬(f:Int)<L:=M0;clear c l v hm k r T q B hz
  go_wp2_with(go_at_call 147;refine(mX.o _).k λw2 U=>?_;have a:=F<|HB.o.trans (U.o.m HB.o.size);clear U)
  go_ret2
  exact⟨by rw[p.o.1,p.o.2,TT.o];rfl,a.o⟩

theorem Qv:∀r:O,(r.dropWhile na=[]->Lib.indexByte r 38=-1)/\(r.dropWhile na ≠ []->Lib.indexByte r 38=((r.takeWhile na).length:Nat))
 | []=>⟨λ_=>rfl,λh=>absurd rfl h⟩
 |y::l=>by
  have a:=Qv l;unfold Lib.indexByte;by_cases h:y=38
  ·subst h
   rw[aX P8,bI P8];exact And.intro (λe=>absurd e Oc) (λ_=>rfl)
  have Y:(y==38)=false:=by simpa using h
  have I:na y=true:=by unfold na;simpa using h
  rw[aQ I,bJ I,Y];constructor
  ·intro e;rw[a.1 e];rfl
  intro e;rw[a.2 e];have:((((l.takeWhile na).length:Nat):Int) == -1)=false:=Oc;rw[this];simp
theorem b0e(l:O)(W:H):bP prog 98 #[.string (E l),.int .u8 38] W (.int .i64 (Lib.indexByte l 38)):=by
 have h:=Any.strings_IndexByte laysIB (E l) 38 W;rw[show(E l).data.toList=l from cW l]at h;exact h
theorem Ch(s:O)(w:H)(hL:s.length<=900000000):bF prog 58 #[.string (E s)] w (S (pl s)):=by
 obtain⟨b,U⟩:=V (E s);have R:=uw s.length s (ag _);obtain⟨T,hT⟩:=V (pl s);rw[<-hT]at R⊢;obtain⟨HT,HI,HLs⟩:=cZ (show T.length<=5400000000 by omega) (show T=[]++pl s from hT) hL;rw[<-U];have HB0:=F U;clear R hT hL U;go_enter func58,ntmps58;go_wp2_with fail
 go_loopw [0,4,5,6] (λsv _ _ _ wr=>∃f:ByteArray,sv=.string f/\Hid (∃r o:O,f=E r/\r.length<=900000000/\T=o++pl r/\Hb w o wr)) (λsv _ _ _ _=>Gm sv)
 exact⟨b,rfl,F ⟨s,[],HB0.o,HLs.o,HI.o,Hb.fresh w⟩⟩
 obtain⟨f,rfl,HR⟩:=hrel;obtain⟨r,o,a,p,y,Q⟩:=HR.o;clear HR;have hol:o.length<=5400000000:=by have:=HT.o;have I:=congrArg List.length y;rw[ae]at I;omega
 have pN:=F Q;have HO:=F hol;clear Q hol;by_cases d:r=[]
 ·have K:=F (show T=o by rw[y,d,Uz,aV])
  have e1:f.toList.isEmpty=true:=by rw[a,d,aB];rfl
  have e2:f.toList=[]:=by rw[a,d,aB]
  clear y d a p
  go_wp2_with(go_at_call 33;refine(Hb.str pN.o).k λw2 u=>?_)
  go_ret;exact⟨by rw[K.o];rfl,u.o⟩
 have e1:f.toList.isEmpty=false:=by rw[a,aB];simpa using d
 have e2:¬f.toList=[]:=by rw[a,aB];exact d
 have c:=λW=>b0e r W;rw[<-a]at c;have nB:=Qv r;have heq:=F5 r;obtain⟨g,hA,D,hD⟩:=ac (r.takeWhile na) (r.dropWhile na);have v:r=g++D:=by rw[hA,hD,ez]
 rw[<-hA,<-hD]at nB heq;by_cases hd:D=[]
 ·rw[nB.1 hd]at c
  rw[ge hd,aV]at heq;have hrA:r=g:=by rw[v,hd,aV]
  obtain⟨K,W3,xo,EF⟩:=dT (show T=o++r by rw[y,heq,<-hrA]) c a p;have hsr:S r=.string f:=by rw[a]
  have M:=F<|λ(W:H) (h:Hb w o W)=>Hb.ws r h (by have:=HO.o;have:=EF.o;omega);rw[hsr]at M;clear c nB heq hrA a p hsr v hA hD hd y d
  go_wp2_with(first|(go_at_call 98;refine(W3.o _).e ?_)|(go_at_call 27;refine(M.o _ pN.o).k λw3 lA=>?_)|(go_at_call 33;refine(Hb.str lA.o).k λw4 u=>?_))
  go_ret;exact⟨by rw[K.o];rfl,u.o⟩
 rw[nB.2 hd]at c;rw[gc hd]at heq
 have J:1<=D.length:=by cases hD':D with
  |nil=>exact absurd hD' hd
  |cons x l=>rw[cz];omega
 have hlen:r.length=g.length+D.length:=by rw[v,ae]
 have hrn:=wA J;have hrf:=Dv D;have href:=λW=>xG D W J M0;obtain⟨t,ht,n,hn⟩:=ac ((gX D).1) ((gX D).2);rw[<-ht,<-hn]at heq href;rw[<-hn]at hrn;rw[<-ht]at hrf;obtain⟨i,hi,N,hN⟩:=ac (g.length) (f.size);have hsz:f.size=N:=hN.symm;have z:N=r.length:=by rw[hN,a,aF]
 obtain⟨j,hj⟩:=V (i+n);rw[<-hi]at c;obtain⟨ab,B,db,C,tb,q⟩:=ax (E g) (E D) (E (D.drop n));have hxa:f.extract 0 i=ab:=by rw[a,B,cd,v,hi];simp
 have hxd:f.extract i N=db:=by rw[a,C,cd,z,v,hi];simp
 have hxt:f.extract j N=tb:=by
  rw[a,q,cd,z,aP (by rw[aj];omega),v,hj,hi,<-List.drop_drop,a1B]
 have hiN:i<=N:=M0;have hjN:j<=N:=M0;have hwj:IntKind.i64.wrap ((i:Int)+(n:Int))=(j:Int):=by rw[show(i:Int)+(n:Int)=(j:Int) by omega];exact gS _ M0
 rw[<-C]at href;have hi0:¬(i:Int)<0:=M0;obtain⟨a7Y,W3,HA1,HA2⟩:=dT href c (show o.length+g.length<=1099511627776 by have:=HO.o;omega) (show(o++g).length+t.length<=1099511627776 by have:=HO.o;rw[ae];omega);have hsa:S g=.string ab:=by rw[B]
 have L:=F<|λ(W:H) (h:Hb w o W)=>Hb.ws g h HA1.o;rw[hsa]at L;obtain⟨HW2,K,Hy⟩:=cZ (λ(W:H) (h:Hb w (o++g) W)=>Hb.ws t h HA2.o) (show T=(o++g++t)++pl (D.drop n) by rw[y,heq];simp only[bB]) (show tb=E (D.drop n)/\(D.drop n).length<=900000000/\tb.size<N from⟨q,by rw[aj];omega,by rw[q,aF,aj];omega⟩);clear href c nB heq a p v hA hD hd y d J hlen hrn hrf ht hn hi hN z hj B C q hsa
 go_wp2_with(first|(go_at_call 98;refine(W3.o _).e ?_)|(go_at_call 27;refine(L.o _ pN.o).k λw3 lA=>?_;clear pN)|(go_at_call 99;refine(a7Y.o _).k λw4 P=>?_;have zA:=F<|lA.o.step P.o;clear P lA)|(go_at_call 27;refine(HW2.o _ zA.o).k λw5 Yo=>?_;clear zA))
 go_roundw
 exact⟨tb,rfl,F ⟨D.drop n,o++g++t,Hy.o.1,Hy.o.2.1,K.o,Yo.o⟩⟩
 have:=Hy.o.2.2;simp[Gm];omega

import Derived.Test.YtagfilhbpnjhkaaGreatDoorFGEmB
set_option maxRecDepth 10000
set_option maxHeartbeats 0
namespace Go.Proofs.Q
open Go.RowKit
def CA:List (O×O):=[([97,109,112],[38]),([65,77,80],[38]),([108,116],[60]),([76,84],[60]),([103,116],[62]),([71,84],[62]),([113,117,111,116],[34]),([81,85,79,84],[34]),([110,98,115,112],[194,160]),([115,104,121],[194,173]),([110,111,116],[194,172]),([114,101,103],[194,174]),([99,111,112,121],[194,169]),([112,97,114,97],[194,182]),([115,101,99,116],[194,167]),([121,101,110],[194,165]),([100,101,103],[194,176]),([116,105,109,101,115],[195,151]),([101,97,99,117,116,101],[195,169]),([111,117,109,108],[195,182]),([115,122,108,105,103],[195,159])]
def rU:List (O×O):=[([110,111,116,105,110],[226,136,137]),([110,118,108,116],[60,226,131,146]),([110,118,103,116],[62,226,131,146]),([122,119,110,106],[226,128,140]),([122,119,106],[226,128,141]),([90,101,114,111,87,105,100,116,104,83,112,97,99,101],[226,128,139]),([78,111,66,114,101,97,107],[226,129,160]),([102,106,108,105,103],[102,106]),([99,111,112,121,115,114],[226,132,151]),([116,105,109,101,115,98,97,114],[226,168,177])]
def nd:List (O×Nat):=[([97,112,111,115],39),([99,111,108,111,110],58),([115,111,108],47),([98,115,111,108],92),([113,117,101,115,116],63),([110,117,109],35),([112,101,114,99,110,116],37),([99,111,109,109,97,116],64),([101,113,117,97,108,115],61),([112,108,117,115],43),([99,111,109,109,97],44),([112,101,114,105,111,100],46),([115,101,109,105],59),([101,120,99,108],33),([100,111,108,108,97,114],36),([97,115,116],42),([108,111,119,98,97,114],95),([103,114,97,118,101],96),([72,97,116],94),([108,112,97,114],40),([114,112,97,114],41),([108,115,113,98],91),([114,115,113,98],93),([108,99,117,98],123),([114,99,117,98],125),([118,101,114,98,97,114],124),([84,97,98],9),([78,101,119,76,105,110,101],10)]
def y8:List Nat:=[8364,129,8218,402,8222,8230,8224,8225,710,8240,352,8249,338,141,381,143,144,8216,8217,8220,8221,8226,8211,8212,732,8482,353,8250,339,157,382,376]
theorem ku{P:UInt8->Prop}(h:∀k:Fin 256,P (UInt8.ofNat k.val))(x:UInt8):P x:=by
 have:=h ⟨x.toNat,x.toNat_lt⟩;rw[dN]at this;exact this
def look{α:Type}:List (O×α)->O->Option α
 | [],_=>none
 |p::l,s=>if s=p.1 then some p.2 else look l s
def yv(s:O):Option O:=look CA s
def nN(s:O):Nat:=(look nd s).getD 0
def iX(s:O):Option O:=if nN s≠0 then some (enc (nN s:Int))else look rU s
def jm(s:O):O:=if s.getLast? = some 59 then s.dropLast else s
def fT(s:O):Option O:=match yv (jm s)with
 |some t=>some t
 |none=>if s.getLast? = some 59 then iX (jm s)else none
def tL(n:Int):Int:=if 128<=n/\n<=159 then((y8.getD (n-128).toNat 0:Nat):Int)else n
def iH(n:Int):O:=if n=0 then enc 65533 else enc (tL n)
def uU(n:Int):Int:=if n<=1114112 then n else 1114112
def mB(base:Int):Int->O->Int×Nat
 |n,[]=>(n,0)
 |n,x::r=>if fg (G x) base<0 then(n,0)else((mB base (uU (n*base+fg (G x) base)) r).1,(mB base (uU (n*base+fg (G x) base)) r).2+1)
def FT(s:O):Bool:=decide (s[2]?= some 120\/s[2]?= some 88)
def Er(s:O)(b:Int)(f:Nat):O×Nat :=
 if(mB b 0 (s.drop f)).2=0 then([38],1)else(iH (mB b 0 (s.drop f)).1,f+(mB b 0 (s.drop f)).2+(if s[f+(mB b 0 (s.drop f)).2]?= some 59 then 1 else 0))
def vY(s:O):O×Nat:=if FT s=true then Er s 16 3 else Er s 10 2
def yz(c:UInt8):Bool:=decide ((65<=G c/\G c<=90)\/(97<=G c/\G c<=122))||decide (48<=G c/\G c<=57)||decide (c=61)
def VL(s:O)(n:Nat):Bool:=decide (s[n]? ≠ some 59)&&(match s[n+1]? with|some c=>yz c|none=>false)
def iC(s:O):Nat->O×Nat
 |0=>([38],1)
 |n+1=>match fT ((s.drop 1).take (n+1))with
  |none=>iC s n
  |some t=>if VL s (n+1)=true then([38],1)else(t,n+2)
def gX(s:O):O×Nat:=if Lib.hasPrefix s [38,35]=true then vY s else iC s (min 15 (s.length-1))
def na(x:UInt8):Bool:=x != 38
def vm:Nat->O->O
 |0,_=>[]
 |k+1,s=>s.takeWhile na++(if s.dropWhile na=[]then []else(gX (s.dropWhile na)).1++vm k ((s.dropWhile na).drop (gX (s.dropWhile na)).2))
def pl(s:O):O:=vm s.length s
theorem lO{α:Type}{l:List (O×α)}{s:O}{t:α}(h:look l s=some t):(s,t)∈l:=by
 induction l with
 |nil=>cases h
 |cons p l a =>
  unfold look at h
  split at h
  ·next e=>cases h;subst e;exact fA
  exact cN _ (a h)
theorem Jz(s:O):∀n,1<=(iC s n).2/\(iC s n).2<=n+1
 |0=>⟨ag _,ag _⟩
 |n+1=>by
  have ih:=Jz s n;unfold iC
  split
  ·omega
  split
  ·exact⟨ag _,M0⟩
  exact⟨by show 1<=n+2;omega,ag _⟩
theorem Xz(base:Int):∀(r:O) (n:Int),(mB base n r).2<=r.length
 | [],n=>ag _
 |x::r,n=>by
  have ih:=Xz base r (uU (n*base+fg (G x) base));unfold mB
  split
  ·exact aL _
  dsimp only;rw[cz];omega
theorem PT{s:O}(h:FT s=true):3<=s.length:=by
 unfold FT at h;rw[gx]at h
 have:2<s.length:=by
  rcases h with h|h <;>exact(bh.mp h).1
 omega
theorem XY{s:O}(b:Int){f:Nat}(h0:1<=f)(h:f<=s.length):1<=(Er s b f).2/\(Er s b f).2<=s.length:=by
 have hd:=Xz b (s.drop f) 0;rw[aj]at hd;unfold Er;generalize (mB b 0 (s.drop f)).2=k at hd⊢
 split
 ·exact⟨ag _,M0⟩
 show 1<=f+k+(if s[f+k]?= some 59 then 1 else 0)/\f+k+(if s[f+k]?= some 59 then 1 else 0)<=s.length
 split
 ·next e =>
  have:=(bh.mp e).1;omega
 omega
theorem a40{s:O}(h:2<=s.length):1<=(vY s).2/\(vY s).2<=s.length:=by
 unfold vY
 split
 ·next e=>exact XY _ M0 (PT e)
 exact XY _ M0 h
theorem wA{s:O}(h:1<=s.length):1<=(gX s).2/\(gX s).2<=s.length:=by
 unfold gX
 split
 ·next e =>
  refine a40 ?_;unfold Lib.hasPrefix at e;have:=(ej.mp e).length_le
  simpa using this
 have:=Jz s (min 15 (s.length-1));omega
theorem nX(c:Int):(enc c).length<=4:=(oN c).2
theorem Pp:∀p∈CA,p.2.length<=6:=P8
theorem Ku:∀p∈rU,p.2.length<=6:=P8
theorem LO{s t:O}(h:fT s=some t):t.length<=6:=by
 unfold fT at h
 split at h
 ·next t' e=>cases h;exact Pp _ (lO e)
 split at h
 ·unfold iX at h
  split at h
  ·have e:=bj h
   subst e;exact am (nX _) P8
  exact Ku _ (lO h)
 cases h
theorem yU(s:O):∀n,(iC s n).1.length<=6
 |0=>by show([38]:O).length<=6;decide
 |n+1=>by
  have a:=yU s n;unfold iC
  split
  ·exact a
  next t e =>
  split
  ·exact(by decide:([38]:O).length<=6)
  exact LO e
theorem VJ(s:O)(b:Int)(f:Nat):(Er s b f).1.length<=6:=by
 unfold Er
 split
 ·exact(by decide:([38]:O).length<=6)
 show(iH _).length<=6;unfold iH
 split
 iterate 2
  ·exact am (nX _) P8
theorem Dv(s:O):(gX s).1.length<=6:=by
 unfold gX
 split
 ·unfold vY
  split <;>exact VJ _ _ _
 exact yU _ _
theorem Cm:∀(k m:Nat) (s:O),s.length<=k->s.length<=m->vm k s=vm m s
 |0,0,s,_,_=>rfl
 |0,m+1,s,h,_=>by
  obtain rfl:s=[]:=dy.mp M0;rfl
 |k+1,0,s,_,h=>by
  obtain rfl:s=[]:=dy.mp M0;rfl
 |k+1,m+1,s,Y,I=>by
  unfold vm
  split
  ·rfl
  next a =>
  have hl:(s.dropWhile na).length<=s.length:=(ce _).length_le
  have c:1<=(s.dropWhile na).length:=by
   rcases Nat.eq_zero_or_pos (s.dropWhile na).length with h|h
   ·exact absurd (dy.mp h) a
   exact h
  have hn:=wA c;rw[Cm k m _ (by rw[aj];omega) (by rw[aj];omega)]
theorem Uz:pl []=[]:=rfl
theorem F5(s:O):pl s=s.takeWhile na++(if s.dropWhile na=[]then []else(gX (s.dropWhile na)).1++pl ((s.dropWhile na).drop (gX (s.dropWhile na)).2)):=by
 cases s with
 |nil=>rfl
 |cons x r =>
  show vm (r.length+1) (x::r)=_;unfold vm
  split
  ·rfl
  next a =>
  have d:((x::r).dropWhile na).length<=(x::r).length:=(ce _).length_le
  have c:1<=((x::r).dropWhile na).length:=by
   rcases Nat.eq_zero_or_pos ((x::r).dropWhile na).length with h|h
   ·exact absurd (dy.mp h) a
   exact h
  have hn:=wA c;rw[cz]at d;rw[Cm r.length _ _ (by rw[aj];omega) (ag _)];rfl
theorem Cl{x:UInt8}(r:O)(h:x≠38):pl (x::r)=x::pl r:=by
 have X:na x=true:=by unfold na;simpa using h
 rw[F5 (x::r),F5 r,bJ X,aQ X];rfl
theorem IG(r:O):pl (38::r)=(gX (38::r)).1++pl ((38::r).drop (gX (38::r)).2):=by
 have X:¬na 38=true:=P8;rw[F5 (38::r),bI X,aX X,gc Oc];rfl
theorem uw:∀(n:Nat) (s:O),s.length<=n->(pl s).length<=6*s.length
 |0,s,h=>by
  obtain rfl:s=[]:=dy.mp M0;exact ag _
 |n+1,[],_=>ag _
 |n+1,x::r,h=>by
  rw[cz]at h;by_cases X:x=38
  ·subst X
   have Y:=wA (s:=38::r) Oc;have I:=Dv (38::r);have a:=uw n ((38::r).drop (gX (38::r)).2) (by rw[aj,cz];omega);rw[aj,cz]at a;rw[IG,ae,cz];omega
  have a:=uw n r M0;rw[Cl r X,cz,cz];omega
theorem b0G:∀p∈CA,(59:UInt8)∉p.1:=P8
theorem a8v:∀p∈rU,(59:UInt8)∉p.1:=P8
theorem b0o:∀p∈nd,(59:UInt8)∉p.1:=P8
theorem a53{α:Type}{l:List (O×α)}{s:O}(a:∀p∈l,(59:UInt8)∉p.1)(c:(59:UInt8)∈s):look l s=none:=by
 cases h:look l s with
 |none=>rfl
 |some t=>exact absurd c (a _ (lO h))
theorem a8V{s:O}(h:(59:UInt8)∈jm s):fT s=none:=by
 unfold fT;have Y:yv (jm s)=none:=a53 b0G h;rw[Y];dsimp only
 split
 ·unfold iX nN
  rw[a53 b0o h,gc Oc,a53 a8v h]
 rfl
theorem a84(a t:O):∀n,a.length+1<=n->n<=a.length+1+t.length->(∃r,fT (a++[59])=some r)->iC (38::(a++59::t)) n=((fT (a++[59])).getD [],a.length+2):=by
 intro n
 induction n with
 |zero=>intro h _ _;omega
 |succ n i =>
  intro h hu d;obtain⟨r,d⟩:=d;unfold iC;have hd:(38::(a++59::t)).drop 1=a++59::t:=rfl;rw[hd];by_cases f:n=a.length
  ·subst f
   have e:(a++59::t).take (a.length+1)=a++[59]:=by
    rw[b5h];rfl
   rw[e,d];dsimp only
   have g:VL (38::(a++59::t)) (a.length+1)=false:=by
    unfold VL
    have:(38::(a++59::t))[a.length+1]?= some 59:=by
     rw[dx,dB (ag _),jy];rfl
    rw[this];rfl
   rw[g,gc Oc];rfl
  have e:(a++59::t).take (n+1)=a++59::t.take (n-a.length):=by
   rw[b4h,aP M0];rw[show n+1-a.length=(n-a.length)+1 by omega,dM]
  rw[e]
  have c:fT (a++59::t.take (n-a.length))=none\/t.take (n-a.length)=[]:=by
   cases hu:t.take (n-a.length)with
   |nil=>exact .inr rfl
   |cons y u =>
    refine .inl (a8V ?_);unfold jm
    split
    ·rw[b4f Oc]
     simp[List.dropLast]
    simp
  rcases c with c|c
  ·rw[c]
   exact i M0 M0 ⟨r,d⟩
  rw[c4p]at c;rcases c with c|c
  ·omega
  rw[c]at hu;simp only[aO]at hu;omega

theorem b3p{x:UInt8}{r:O}(h:x≠35):Lib.hasPrefix (38::x::r) [38,35]=false:=by
 unfold Lib.hasPrefix;have:(35==x)=false:=by simpa using λe:35=x=>h e.symm
 simp[List.isPrefixOf,this]
theorem a2J(r:O):Lib.hasPrefix (38::35::r) [38,35]=true:=by
 unfold Lib.hasPrefix;simp[List.isPrefixOf]
theorem b1i(t:O):pl ([38,97,109,112,59]++t)=38::pl t:=by
 have h:gX ([38,97,109,112,59]++t)=([38],5):=by
  show gX (38::97::(109::112::59::t))=_;unfold gX;rw[b3p P8,gc Oc];have I:=a84 [97,109,112] t (min 15 ((38::97::(109::112::59::t)).length-1)) (by simp only[cz,aO];omega) (by simp only[cz,aO];omega) ⟨[38],P8⟩;exact I
 rw[show([38,97,109,112,59]++t:O)=38::([97,109,112,59]++t)from rfl,IG];rw[show(38::([97,109,112,59]++t):O)=[38,97,109,112,59]++t from rfl,h];rfl
theorem a1u(base:Int)(U:base=10)(t:O):∀(l:O) (n:Int),(mB base n l).2=l.length->mB base n (l++59::t)=((mB base n l).1,l.length)
 | [],n,_=>by
  subst U;show mB 10 n (59::t)=_;unfold mB;rw[ge P8];rfl
 |x::r,n,h=>by
  show mB base n (x::(r++59::t))=_;unfold mB at h⊢
  split
  ·next e =>
   rw[ge e]at h;simp at h
  next e =>
  rw[gc e]at h;have a:=a1u base U t r (uU (n*base+fg (G x) base)) (by simpa using h);rw[a];rfl
def a1q(n:Nat):O:=[38,35]++Lib.decDigits n++[59]
theorem a2G(n:Nat)(t:O)(h:mB 10 0 (Lib.decDigits n)=((n:Int),(Lib.decDigits n).length))(X:(Lib.decDigits n)[0]? ≠ some 120/\(Lib.decDigits n)[0]? ≠ some 88)(Y:1<=(Lib.decDigits n).length):pl (a1q n++t)=iH n++pl t:=by
 unfold a1q;generalize hD:Lib.decDigits n=D at h X Y
 have i:gX ([38,35]++D++[59]++t)=(iH n,D.length+3):=by
  show gX (38::35::(D++[59]++t))=_;unfold gX;rw[a2J,ge rfl]
  have a:FT (38::35::(D++[59]++t))=false:=by
   unfold FT
   have e:(38::35::(D++[59]++t))[2]?= D[0]?:=by
    show(D++[59]++t)[0]?= _;rw[bB,cX M0]
   rw[e];simp[X]
  have d:(38::35::(D++[59]++t)).drop 2=D++59::t:=Oc;have f:mB 10 0 (D++59::t)=((n:Int),D.length):=by rw[a1u 10 rfl t D 0 (by rw[h]),h]
  unfold vY Er;rw[a,gc Oc,d,f]
  have c:(38::35::(D++[59]++t))[2+D.length]?= some 59:=by
   rw[show 2+D.length=D.length+1+1 by omega,dx,dx,bB,dB (ag _),jy];rfl
  show(if D.length=0 then _ else _)=_;rw[gc M0];show(iH (n:Int),2+D.length+(if(38::35::(D++[59]++t))[2+D.length]?= some 59 then 1 else 0))=_;rw[c,ge rfl]
  congr 1
  omega
 rw[show([38,35]++D++[59]++t:O)=38::([35]++D++[59]++t)from rfl,IG];rw[show(38::([35]++D++[59]++t):O)=[38,35]++D++[59]++t from rfl,i];dsimp only
 congr 1
 have e:[38,35]++D++[59]++t=([38,35]++D++[59])++t:=rfl;have g:D.length+3=([38,35]++D++[59]:O).length:=Oc;rw[g,a1B]
theorem a1p:∀k:Fin 128,mB 10 0 (Lib.decDigits k.val)=((k.val:Int),(Lib.decDigits k.val).length)/\((Lib.decDigits k.val)[0]? ≠ some 120/\(Lib.decDigits k.val)[0]? ≠ some 88)/\1<=(Lib.decDigits k.val).length:=by decide +kernel
theorem a2d(n:Nat)(h:n<128)(t:O):pl (a1q n++t)=iH n++pl t :=
 a2G n t (a1p ⟨n,h⟩).1 (a1p ⟨n,h⟩).2.1 (a1p ⟨n,h⟩).2.2
theorem a1K{n:Nat}(h:1<=n/\n<128):iH n=[UInt8.ofNat n]:=by
 unfold iH tL;rw[gc M0,gc M0,ID M0 M0];rfl
theorem one_num:Dh 34=a1q 34/\Dh 39=a1q 39/\Dh 60=a1q 60/\Dh 62=a1q 62/\Dh 96=a1q 96:=by decide +kernel
theorem a5Z{x:UInt8}{n:Nat}(h:Dh x=a1q n)(a:1<=n/\n<128)(X:UInt8.ofNat n=x)(t:O):pl (Dh x++t)=x::pl t:=by
 rw[h,a2d n a.2,a1K a,X];rfl
theorem b2s(x:UInt8)(t:O):pl (Dh x++t)=x::pl t:=by
 have a:x=38\/x=34\/x=39\/x=60\/x=62\/x=96\/(Dh x=[x]/\x≠38):=by
  have hall:∀k:Fin 256,UInt8.ofNat k.val=38\/UInt8.ofNat k.val=34\/UInt8.ofNat k.val=39\/UInt8.ofNat k.val=60\/UInt8.ofNat k.val=62\/UInt8.ofNat k.val=96\/(Dh (UInt8.ofNat k.val)=[UInt8.ofNat k.val]/\UInt8.ofNat k.val≠38):=by decide +kernel
  exact ku (P:=λx=>x=38\/x=34\/x=39\/x=60\/x=62\/x=96\/(Dh x=[x]/\x≠38)) hall x
 rcases a with rfl|rfl|rfl|rfl|rfl|rfl|⟨h,c⟩
 ·exact b1i t
 ·exact a5Z one_num.1 P8 rfl t
 ·exact a5Z one_num.2.1 P8 rfl t
 ·exact a5Z one_num.2.2.1 P8 rfl t
 ·exact a5Z one_num.2.2.2.1 P8 rfl t
 ·exact a5Z one_num.2.2.2.2 P8 rfl t
 rw[h];exact Cl t c
theorem a9f:∀(l t:O),pl (qM l++t)=l++pl t
 | [],_=>rfl
 |x::r,t=>by
  show pl ((Dh x++qM r)++t)=_;rw[bB,b2s,a9f r t];rfl
theorem a9h(l:O):pl (qM l)=l:=by
 have:=a9f l [];rw[aV,Uz,aV]at this;exact this

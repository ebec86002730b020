/- Joined texts. -/
import Derived.Test.YtmndlfglgcioeaaGreatDoorEGTextD
import Derived.Test.YtmndlfglgcioeaaGreatDoorEGEmB
set_option maxHeartbeats 40000000
namespace Go.Proofs.YtmndlfglgcioeaaGreatDoor
open Go.RowKit
set_option maxRecDepth 10000
def za:List (Bytes×Bytes):=[([97,109,112],[38]),([65,77,80],[38]),([108,116],[60]),([76,84],[60]),([103,116],[62]),([71,84],[62]),([113,117,111,116],[34]),([81,85,79,84],[34]),([110,98,115,112],[194,160]),([115,104,121],[194,173]),([110,111,116],[194,172]),([114,101,103],[194,174]),([99,111,112,121],[194,169]),([112,97,114,97],[194,182]),([115,101,99,116],[194,167]),([121,101,110],[194,165]),([100,101,103],[194,176]),([116,105,109,101,115],[195,151]),([101,97,99,117,116,101],[195,169]),([111,117,109,108],[195,182]),([115,122,108,105,103],[195,159])]
def qE:List (Bytes×Bytes):=[([110,111,116,105,110],[226,136,137]),([110,118,108,116],[60,226,131,146]),([110,118,103,116],[62,226,131,146]),([122,119,110,106],[226,128,140]),([122,119,106],[226,128,141]),([90,101,114,111,87,105,100,116,104,83,112,97,99,101],[226,128,139]),([78,111,66,114,101,97,107],[226,129,160]),([102,106,108,105,103],[102,106]),([99,111,112,121,115,114],[226,132,151]),([116,105,109,101,115,98,97,114],[226,168,177])]
def mB:List (Bytes×Nat):=[([97,112,111,115],39),([99,111,108,111,110],58),([115,111,108],47),([98,115,111,108],92),([113,117,101,115,116],63),([110,117,109],35),([112,101,114,99,110,116],37),([99,111,109,109,97,116],64),([101,113,117,97,108,115],61),([112,108,117,115],43),([99,111,109,109,97],44),([112,101,114,105,111,100],46),([115,101,109,105],59),([101,120,99,108],33),([100,111,108,108,97,114],36),([97,115,116],42),([108,111,119,98,97,114],95),([103,114,97,118,101],96),([72,97,116],94),([108,112,97,114],40),([114,112,97,114],41),([108,115,113,98],91),([114,115,113,98],93),([108,99,117,98],123),([114,99,117,98],125),([118,101,114,98,97,114],124),([84,97,98],9),([78,101,119,76,105,110,101],10)]
def zS:List Nat:=[8364,129,8218,402,8222,8230,8224,8225,710,8240,352,8249,338,141,381,143,144,8216,8217,8220,8221,8226,8211,8212,732,8482,353,8250,339,157,382,376]
theorem kh{P:UInt8->Prop}(h:∀ k:Fin 256,P (UInt8.ofNat k.val))(x:UInt8):P x:=by
 have:=h ⟨x.toNat,x.toNat_lt⟩;rw[cM]at this;exact this
def look{α:Type}:List (Bytes×α)->Bytes->Option α
 | [],_=>none
 |p::l,s=>if s=p.1 then some p.2 else look l s
def wu(s:Bytes):Option Bytes:=look za s
def nR(s:Bytes):Nat:=(look mB s).getD 0
def ju(s:Bytes):Option Bytes:=if nR s≠0 then some (enc (nR s:Int))else look qE s
def ik(s:Bytes):Bytes:=if s.getLast? = some 59 then s.dropLast else s
def fa(s:Bytes):Option Bytes:=match wu (ik s)with
 |some t=>some t
 |none=>if s.getLast? = some 59 then ju (ik s)else none
def r6(n:Int):Int:=if 128<=n∧n<=159 then((zS.getD (n-128).toNat 0:Nat):Int)else n
def gq(n:Int):Bytes:=if n=0 then enc 65533 else enc (r6 n)
def uw(n:Int):Int:=if n<=1114112 then n else 1114112
def kK(base:Int):Int->Bytes->Int×Nat
 |n,[]=>(n,0)
 |n,x::r=>if fI (b2 x) base<0 then(n,0)else((kK base (uw (n*base+fI (b2 x) base)) r).1,(kK base (uw (n*base+fI (b2 x) base)) r).2+1)
def A9(s:Bytes):Bool:=decide (s[2]? = some 120∨s[2]? = some 88)
def Ei(s:Bytes)(b:Int)(f:Nat):Bytes×Nat :=
 if(kK b 0 (s.drop f)).2=0 then([38],1)else(gq (kK b 0 (s.drop f)).1,f+(kK b 0 (s.drop f)).2+(if s[f+(kK b 0 (s.drop f)).2]? = some 59 then 1 else 0))
def vf(s:Bytes):Bytes×Nat:=if A9 s=true then Ei s 16 3 else Ei s 10 2
def zc(c:UInt8):Bool:=decide ((65<=b2 c∧b2 c<=90)∨(97<=b2 c∧b2 c<=122))||decide (48<=b2 c∧b2 c<=57)||decide (c=61)
def Sv(s:Bytes)(n:Nat):Bool:=decide (s[n]? ≠ some 59)&&(match s[n+1]? with|some c=>zc c|none=>false)
def iR(s:Bytes):Nat->Bytes×Nat
 |0=>([38],1)
 |n+1=>match fa ((s.drop 1).take (n+1))with
  |none=>iR s n
  |some t=>if Sv s (n+1)=true then([38],1)else(t,n+2)
def gG(s:Bytes):Bytes×Nat:=if Lib.hasPrefix s [38,35]=true then vf s else iR s (min 15 (s.length-1))
def na(x:UInt8):Bool:=x != 38
def vV:Nat->Bytes->Bytes
 |0,_=>[]
 |k+1,s=>s.takeWhile na++(if s.dropWhile na=[]then []else(gG (s.dropWhile na)).1++vV k ((s.dropWhile na).drop (gG (s.dropWhile na)).2))
def jl(s:Bytes):Bytes:=vV s.length s
theorem ln{α:Type}{l:List (Bytes×α)}{s:Bytes}{t:α}(h:look l s=some t):(s,t)∈l:=by
 induction l with
 |nil=>cases h
 |cons p l ih =>
  unfold look at h
  split at h
  ·next e=>cases h;subst e;exact bM
  exact be _ (ih h)
theorem Ky(s:Bytes):∀ n,1<=(iR s n).2∧(iR s n).2<=n+1
 |0=>⟨af _,af _⟩
 |n+1=>by
  have ih:=Ky s n;unfold iR
  split
  ·omega
  split
  ·exact⟨af _,by omega⟩
  exact⟨by show 1<=n+2;omega,af _⟩
theorem Yl(base:Int):∀ (r:Bytes) (n:Int),(kK base n r).2<=r.length
 | [],n=>af _
 |x::r,n=>by
  have ih:=Yl base r (uw (n*base+fI (b2 x) base));unfold kK
  split
  ·exact aK _
  dsimp only;rw[ag];omega
theorem QX{s:Bytes}(h:A9 s=true):3<=s.length:=by
 unfold A9 at h;rw[decide_eq_true_eq]at h
 have:2<s.length:=by
  rcases h with h|h <;>exact(bf.mp h).1
 omega
theorem YF{s:Bytes}(b:Int){f:Nat}(h0:1<=f)(h:f<=s.length):1<=(Ei s b f).2∧(Ei s b f).2<=s.length:=by
 have hd:=Yl b (s.drop f) 0;rw[ah]at hd;unfold Ei;generalize (kK b 0 (s.drop f)).2=k at hd ⊢
 split
 ·exact⟨af _,by omega⟩
 show 1<=f+k+(if s[f+k]? = some 59 then 1 else 0)∧f+k+(if s[f+k]? = some 59 then 1 else 0)<=s.length
 split
 ·next e =>
  have:=(bf.mp e).1;omega
 omega
theorem a5A{s:Bytes}(h:2<=s.length):1<=(vf s).2∧(vf s).2<=s.length:=by
 unfold vf
 split
 ·next e=>exact YF _ (by omega) (QX e)
 exact YF _ (by omega) h
theorem xr{s:Bytes}(h:1<=s.length):1<=(gG s).2∧(gG s).2<=s.length:=by
 unfold gG
 split
 ·next e =>
  refine a5A ?_;unfold Lib.hasPrefix at e;have:=(dD.mp e).length_le
  simpa using this
 have:=Ky s (min 15 (s.length-1));omega
theorem oG(c:Int):(enc c).length<=4:=(ns c).2
theorem QE:∀ p∈za,p.2.length<=6:=by decide
theorem LA:∀ p∈qE,p.2.length<=6:=by decide
theorem MZ{s t:Bytes}(h:fa s=some t):t.length<=6:=by
 unfold fa at h
 split at h
 ·next t' e=>cases h;exact QE _ (ln e)
 split at h
 ·unfold ju at h
  split at h
  ·have e:=bp h
   subst e;exact ap (oG _) (by decide)
  exact LA _ (ln h)
 cases h
theorem zH(s:Bytes):∀ n,(iR s n).1.length<=6
 |0=>by show([38]:Bytes).length<=6;decide
 |n+1=>by
  have ih:=zH s n;unfold iR
  split
  ·exact ih
  next t e =>
  split
  ·exact(by decide:([38]:Bytes).length<=6)
  exact MZ e
theorem WI(s:Bytes)(b:Int)(f:Nat):(Ei s b f).1.length<=6:=by
 unfold Ei
 split
 ·exact(by decide:([38]:Bytes).length<=6)
 show(gq _).length<=6;unfold gq
 split
 iterate 2
  ·exact ap (oG _) (by decide)
theorem Ex(s:Bytes):(gG s).1.length<=6:=by
 unfold gG
 split
 ·unfold vf
  split <;>exact WI _ _ _
 exact zH _ _
theorem Dt:∀ (k m:Nat) (s:Bytes),s.length<=k->s.length<=m->vV k s=vV m s
 |0,0,s,_,_=>rfl
 |0,m+1,s,h,_=>by
  obtain rfl:s=[]:=d9.mp (by omega);rfl
 |k+1,0,s,_,h=>by
  obtain rfl:s=[]:=d9.mp (by omega);rfl
 |k+1,m+1,s,h1,h2=>by
  unfold vV
  split
  ·rfl
  next hne =>
  have hl:(s.dropWhile na).length<=s.length:=(cD _).length_le
  have h0:1<=(s.dropWhile na).length:=by
   rcases Nat.eq_zero_or_pos (s.dropWhile na).length with h|h
   ·exact absurd (d9.mp h) hne
   exact h
  have hn:=xr h0;rw[Dt k m _ (by rw[ah];omega) (by rw[ah];omega)]
theorem JD:jl []=[]:=rfl
theorem AQ(s:Bytes):jl s=s.takeWhile na++(if s.dropWhile na=[]then []else(gG (s.dropWhile na)).1++jl ((s.dropWhile na).drop (gG (s.dropWhile na)).2)):=by
 cases s with
 |nil=>rfl
 |cons x r =>
  show vV (r.length+1) (x::r)=_;unfold vV
  split
  ·rfl
  next hne =>
  have hl:((x::r).dropWhile na).length<=(x::r).length:=(cD _).length_le
  have h0:1<=((x::r).dropWhile na).length:=by
   rcases Nat.eq_zero_or_pos ((x::r).dropWhile na).length with h|h
   ·exact absurd (d9.mp h) hne
   exact h
  have hn:=xr h0;rw[ag]at hl;rw[Dt r.length _ _ (by rw[ah];omega) (af _)];rfl
theorem vW{x:UInt8}(r:Bytes)(h:x≠38):jl (x::r)=x::jl r:=by
 have hx:na x=true:=by unfold na;simpa using h
 rw[AQ (x::r),AQ r,aY hx,aU hx];rfl
theorem u4(r:Bytes):jl (38::r)=(gG (38::r)).1++jl ((38::r).drop (gG (38::r)).2):=by
 have hx:¬ na 38=true:=by decide
 rw[AQ (38::r),aX hx,bn hx,if_neg (by simp)];rfl
theorem u5:∀ (n:Nat) (s:Bytes),s.length<=n->(jl s).length<=6*s.length
 |0,s,h=>by
  obtain rfl:s=[]:=d9.mp (by omega);exact af _
 |n+1,[],_=>af _
 |n+1,x::r,h=>by
  rw[ag]at h;by_cases hx:x=38
  ·subst hx
   have h1:=xr (s:=38::r) (by simp);have h2:=Ex (38::r);have ih:=u5 n ((38::r).drop (gG (38::r)).2) (by rw[ah,ag];omega);rw[ah,ag]at ih;rw[u4,ae,ag];omega
  have ih:=u5 n r (by omega);rw[vW r hx,ag,ag];omega
theorem Mi:∀ p∈za,(59:UInt8)∉p.1:=by decide
theorem F0:∀ p∈qE,(59:UInt8)∉p.1:=by decide
theorem LC:∀ p∈mB,(59:UInt8)∉p.1:=by decide
theorem sV{α:Type}{l:List (Bytes×α)}{s:Bytes}(hl:∀ p∈l,(59:UInt8)∉p.1)(hs:(59:UInt8)∈s):look l s=none:=by
 cases h:look l s with
 |none=>rfl
 |some t=>exact absurd hs (hl _ (ln h))
theorem Hg{s:Bytes}(h:(59:UInt8)∈ik s):fa s=none:=by
 unfold fa;have h1:wu (ik s)=none:=sV Mi h;rw[h1];dsimp only
 split
 ·unfold ju nR
  rw[sV LC h,if_neg (by simp),sV F0 h]
 rfl
theorem H5(a t:Bytes):∀ n,a.length+1<=n->n<=a.length+1+t.length->(∃r,fa (a++[59])=some r)->iR (38::(a++59::t)) n=((fa (a++[59])).getD [],a.length+2):=by
 intro n
 induction n with
 |zero=>intro h _ _;omega
 |succ n ih =>
  intro h hu hr;obtain⟨r,hr⟩:=hr;unfold iR;have hd:(38::(a++59::t)).drop 1=a++59::t:=rfl;rw[hd];by_cases hn:n=a.length
  ·subst hn
   have ht:(a++59::t).take (a.length+1)=a++[59]:=by
    rw[List.take_length_add_append];rfl
   rw[ht,hr];dsimp only
   have ho:Sv (38::(a++59::t)) (a.length+1)=false:=by
    unfold Sv
    have:(38::(a++59::t))[a.length+1]? = some 59:=by
     rw[cC,cu (af _),gR];rfl
    rw[this];rfl
   rw[ho,if_neg (by simp)];rfl
  have ht:(a++59::t).take (n+1)=a++59::t.take (n-a.length):=by
   rw[List.take_append,aP (by omega)];rw[show n+1-a.length=(n-a.length)+1 by omega,cY]
  rw[ht]
  have hno:fa (a++59::t.take (n-a.length))=none∨t.take (n-a.length)=[]:=by
   cases hu:t.take (n-a.length)with
   |nil=>exact .inr rfl
   |cons y u =>
    refine .inl (Hg ?_);unfold ik
    split
    ·rw[List.dropLast_append_of_ne_nil (by simp)]
     simp[List.dropLast]
    simp
  rcases hno with hno|hno
  ·rw[hno]
   exact ih (by omega) (by omega) ⟨r,hr⟩
  rw[List.take_eq_nil_iff]at hno;rcases hno with hno|hno
  ·omega
  rw[hno]at hu;simp only[aN]at hu;omega

theorem a1n{x:UInt8}{r:Bytes}(h:x≠35):Lib.hasPrefix (38::x::r) [38,35]=false:=by
 unfold Lib.hasPrefix;have:(35==x)=false:=by simpa using fun e:35=x=>h e.symm
 simp[List.isPrefixOf,this]
theorem W1(r:Bytes):Lib.hasPrefix (38::35::r) [38,35]=true:=by
 unfold Lib.hasPrefix;simp[List.isPrefixOf]
theorem Qq(t:Bytes):jl ([38,97,109,112,59]++t)=38::jl t:=by
 have h:gG ([38,97,109,112,59]++t)=([38],5):=by
  show gG (38::97::(109::112::59::t))=_;unfold gG;rw[a1n (by decide),if_neg (by simp)];have h2:=H5 [97,109,112] t (min 15 ((38::97::(109::112::59::t)).length-1)) (by simp only[ag,aN];omega) (by simp only[ag,aN];omega) ⟨[38],by decide⟩;exact h2
 rw[show([38,97,109,112,59]++t:Bytes)=38::([97,109,112,59]++t)from rfl,u4];rw[show(38::([97,109,112,59]++t):Bytes)=[38,97,109,112,59]++t from rfl,h];rfl
theorem Dl(base:Int)(hb:base=10)(t:Bytes):∀ (l:Bytes) (n:Int),(kK base n l).2=l.length->kK base n (l++59::t)=((kK base n l).1,l.length)
 | [],n,_=>by
  subst hb;show kK 10 n (59::t)=_;unfold kK;rw[if_pos (by decide)];rfl
 |x::r,n,h=>by
  show kK base n (x::(r++59::t))=_;unfold kK at h ⊢
  split
  ·next e =>
   rw[if_pos e]at h;simp at h
  next e =>
  rw[if_neg e]at h;have ih:=Dl base hb t r (uw (n*base+fI (b2 x) base)) (by simpa using h);rw[ih];rfl
def Bm(n:Nat):Bytes:=[38,35]++Lib.decDigits n++[59]
theorem VK(n:Nat)(t:Bytes)(h:kK 10 0 (Lib.decDigits n)=((n:Int),(Lib.decDigits n).length))(hx:(Lib.decDigits n)[0]? ≠ some 120∧(Lib.decDigits n)[0]? ≠ some 88)(h1:1<=(Lib.decDigits n).length):jl (Bm n++t)=gq n++jl t:=by
 unfold Bm;generalize hD:Lib.decDigits n=D at h hx h1
 have hr:gG ([38,35]++D++[59]++t)=(gq n,D.length+3):=by
  show gG (38::35::(D++[59]++t))=_;unfold gG;rw[W1,if_pos rfl]
  have a9n:A9 (38::35::(D++[59]++t))=false:=by
   unfold A9
   have e:(38::35::(D++[59]++t))[2]? = D[0]?:=by
    show(D++[59]++t)[0]? = _;rw[aT,cH (by omega)]
   rw[e];simp[hx]
  have hdr:(38::35::(D++[59]++t)).drop 2=D++59::t:=by simp
  have hg:kK 10 0 (D++59::t)=((n:Int),D.length):=by rw[Dl 10 rfl t D 0 (by rw[h]),h]
  unfold vf Ei;rw[a9n,if_neg (by simp),hdr,hg]
  have hat:(38::35::(D++[59]++t))[2+D.length]? = some 59:=by
   rw[show 2+D.length=D.length+1+1 by omega,cC,cC,aT,cu (af _),gR];rfl
  show(if D.length=0 then _ else _)=_;rw[if_neg (by omega)];show(gq (n:Int),2+D.length+(if(38::35::(D++[59]++t))[2+D.length]? = some 59 then 1 else 0))=_;rw[hat,if_pos rfl]
  congr 1
  omega
 rw[show([38,35]++D++[59]++t:Bytes)=38::([35]++D++[59]++t)from rfl,u4];rw[show(38::([35]++D++[59]++t):Bytes)=[38,35]++D++[59]++t from rfl,hr];dsimp only
 congr 1
 have e:[38,35]++D++[59]++t=([38,35]++D++[59])++t:=rfl;have hl:D.length+3=([38,35]++D++[59]:Bytes).length:=by simp
 rw[hl,mn]
theorem s4:∀ k:Fin 128,kK 10 0 (Lib.decDigits k.val)=((k.val:Int),(Lib.decDigits k.val).length)∧((Lib.decDigits k.val)[0]? ≠ some 120∧(Lib.decDigits k.val)[0]? ≠ some 88)∧1<=(Lib.decDigits k.val).length:=by decide +kernel
theorem Qr(n:Nat)(h:n<128)(t:Bytes):jl (Bm n++t)=gq n++jl t :=
 VK n t (s4 ⟨n,h⟩).1 (s4 ⟨n,h⟩).2.1 (s4 ⟨n,h⟩).2.2
theorem Ih{n:Nat}(h:1<=n∧n<128):gq n=[UInt8.ofNat n]:=by
 unfold gq r6;rw[if_neg (by omega),if_neg (by omega),rE (by omega) (by omega)];rfl
theorem one_num:jm 34=Bm 34∧jm 39=Bm 39∧jm 60=Bm 60∧jm 62=Bm 62∧jm 96=Bm 96:=by decide +kernel
theorem rH{x:UInt8}{n:Nat}(h:jm x=Bm n)(hn:1<=n∧n<128)(hx:UInt8.ofNat n=x)(t:Bytes):jl (jm x++t)=x::jl t:=by
 rw[h,Qr n hn.2,Ih hn,hx];rfl
theorem VL(x:UInt8)(t:Bytes):jl (jm x++t)=x::jl t:=by
 have hc:x=38∨x=34∨x=39∨x=60∨x=62∨x=96∨(jm x=[x]∧x≠38):=by
  have hall:∀ k:Fin 256,UInt8.ofNat k.val=38∨UInt8.ofNat k.val=34∨UInt8.ofNat k.val=39∨UInt8.ofNat k.val=60∨UInt8.ofNat k.val=62∨UInt8.ofNat k.val=96∨(jm (UInt8.ofNat k.val)=[UInt8.ofNat k.val]∧UInt8.ofNat k.val≠38):=by decide +kernel
  exact kh (P:=fun x=>x=38∨x=34∨x=39∨x=60∨x=62∨x=96∨(jm x=[x]∧x≠38)) hall x
 rcases hc with rfl|rfl|rfl|rfl|rfl|rfl|⟨h,hn⟩
 ·exact Qq t
 ·exact rH one_num.1 (by decide) rfl t
 ·exact rH one_num.2.1 (by decide) rfl t
 ·exact rH one_num.2.2.1 (by decide) rfl t
 ·exact rH one_num.2.2.2.1 (by decide) rfl t
 ·exact rH one_num.2.2.2.2 (by decide) rfl t
 rw[h];exact vW t hn
theorem JC:∀ (l t:Bytes),jl (eX l++t)=l++jl t
 | [],_=>rfl
 |x::r,t=>by
  show jl ((jm x++eX r)++t)=_;rw[aT,VL,JC r t];rfl
theorem Ds(l:Bytes):jl (eX l)=l:=by
 have:=JC l [];rw[aG,JD,aG]at this;exact this
end Go.Proofs.YtmndlfglgcioeaaGreatDoor

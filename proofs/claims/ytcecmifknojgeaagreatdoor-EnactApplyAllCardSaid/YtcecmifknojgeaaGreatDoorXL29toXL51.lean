/-
  LINT, 29: trees stripped by the program.
-/
import Derived.Test.YtcecmifknojgeaaGreatDoorXE12toXL27
import Derived.Test.YtcecmifknojgeaaGreatDoorXE9toXE11
import Derived.Test.YtcecmifknojgeaaGreatDoorXL18toXOpI
import Derived.Lib.Join
import Derived.Test.YtcecmifknojgeaaGreatDoorXC4
import Derived.Test.YtcecmifknojgeaaGreatDoorXC5
import Derived.Test.YtcecmifknojgeaaGreatDoorXC6
import Derived.Test.YtcecmifknojgeaaGreatDoorShelf
import Derived.Test.YtcecmifknojgeaaGreatDoorXL5toXL8
import Derived.Test.YtcecmifknojgeaaGreatDoorXL9toXL13
import Derived.Lib.Split
import Derived.Lib.SplitLaws
import Derived.Lib.AppendIntMem
import Derived.Test.YtcecmifknojgeaaGreatDoorXL14toXFrN
import Derived.Test.YtcecmifknojgeaaGreatDoorXE6toXE8
namespace Go.Av
open Go Go.RowKit Go.Proofs List
set_option linter.unusedSimpArgs false
set_option linter.unusedVariables false
theorem mix_len {α:Type} {g:α->α} {f:α->List AV} {l:List α} {i:Nat} {x:α} {r:List α} (hx:Rest l i x r):(((l.take i).map g++l.drop i).map f).length=l.length:=by
 simp;have:=hx.lt;omega
theorem lb {α:Type} {g:α->α} {f:α->List AV} {l:List α} {i:Nat} {x:α} {r:List α} (hx:Rest l i x r):(((l.take (i+1)).map g++l.drop (i+1)).map f).length=l.length:=by
 simp;have:=hx.lt;omega
theorem mU {α:Type} {g:α->α} {f:α->List AV} {l:List α} {i:Nat} {x:α} {r:List α} (hx:Rest l i x r) (hi:i<(((l.take i).map g++l.drop i).map f).length):(((l.take i).map g++l.drop i).map f)[i]=f x:=by
 have h1:=hx.lt
 have h2:=hx.get x
 rw[getElem_map,getElem_append_right (by simp;omega)]
 simp only[length_map,length_take,getElem_drop]
 congr 1
 have e:i+(i-min i l.length)=i:=by omega
 simp only[e]
 simpa[h1]using h2
theorem mix_set {α:Type} {g:α->α} {f:α->List AV} {l:List α} {i:Nat} {x:α} {r:List α} (hx:Rest l i x r):(((l.take i).map g++l.drop i).map f).set i (f (g x))=((l.take (i+1)).map g++l.drop (i+1)).map f:=by
 have h1:=hx.lt
 rw[map_append,set_append_right _ _ (by simp;omega)]
 have e:i-(List.map f (List.map g (List.take i l))).length=0:=by simp;omega
 rw[e,hx.take,map_append,map_append,map_append]
 have h3:l.drop i=x::l.drop (i+1):=by
  rw[drop_eq_getElem_cons h1]
  congr 1
  simpa[h1]using hx.get x
 rw[h3]
 simp
theorem ou {l:List Wd} {i:Nat} {x:Wd} {r:List Wd} (hx:Rest l i x r):(((l.take i).map Wd.bare++l.drop i).map Wd.cs).length=l.length:=mix_len hx
theorem g7 {l:List Wd} {i:Nat} {x:Wd} {r:List Wd} (hx:Rest l i x r):(((l.take (i+1)).map Wd.bare++l.drop (i+1)).map Wd.cs).length=l.length:=lb hx
theorem mj {l:List Wd} {i:Nat} {x:Wd} {r:List Wd} (hx:Rest l i x r) (hi:i<(((l.take i).map Wd.bare++l.drop i).map Wd.cs).length):
  (((l.take i).map Wd.bare++l.drop i).map Wd.cs).set i (aH (((l.take i).map Wd.bare++l.drop i).map Wd.cs)[i] 1 [.int .i64 0,.int .i64 0,.int .i64 0])=(((l.take (i+1)).map Wd.bare++l.drop (i+1)).map Wd.cs):=by
 rw[mU hx hi,←mix_set hx]
 rfl
theorem oX {l:List U} {i:Nat} {x:U} {r:List U} (hx:Rest l i x r) (hi:i<(((l.take i).map U.strip++l.drop i).map U.cs).length):
  (((l.take i).map U.strip++l.drop i).map U.cs).set i (aH (((l.take i).map U.strip++l.drop i).map U.cs)[i] 0 x.strip.cs)=(((l.take (i+1)).map U.strip++l.drop (i+1)).map U.cs):=by
 rw[mU hx hi,←mix_set hx]
 congr 1
 rw[aV _ _ _ (by rw[U.cs_len,U.cs_len];omega),U.cs_len,drop_of_length_le (by rw[U.cs_len];omega)]
 simp
theorem j6 {a b c d:Store}:List.Perm (c++(a++(b++d))) (a++(b++(c++d))):=by
 have h1:List.Perm (c++(a++(b++d))) ((a++b)++(c++d)):=by
  rw[←append_assoc a b d]
  exact perm_append_comm_assoc c (a++b) d
 rwa [append_assoc]at h1
theorem i6 {a b c:Store}:List.Perm (b++(a++c)) (a++(b++c)):=perm_append_comm_assoc b a c
section
variable (G:Glob)
set_option maxHeartbeats 4000000 in
theorem f243:∀(u:U),u.Short->Pure G Tryz.prog 243 [.agg u.cs] (.agg u.strip.cs):=by
 refine U.ind λu ih hs=>kF.freeze ?_
 have h0:=hs.2 u u.flat_self
 have hkl:=hs.1.kids
 have hhl:=h0.2.1
 have hwl:=h0.2.2.1
 have hC:=f51 G u hs
 rw[U.cs_eq u]at hC ⊢
 refine aj.w c243 ?_
 unfold s243 r243
 (try simp only[EVz,seval,↓reduceIte,EV6,EV7])
 intro b1 hb1 b2 hb2
 have hb12:¬b1=b2:=by simp only[EVK]at hb2;exact λe=>hb2 e.symm
 have hb21:¬b2=b1:=λe=>hb12 e.symm
 (try simp only[EVz,seval,↓reduceIte,EV6,EV7,hb12,hb21])
 refine az [] _ hC.v (aB.rfl' _) (SubN.refl _) ?_
 rintro _ _ ⟨bh,ch,σh,bw,cw,σw,bk,ck,σk,rfl,rfl,hOh,hOw,hOk⟩ hnd1
 simp only[append_eq,append_assoc]at hnd1
 have hK1:b1∉σk.keys:=cF hnd1 (by simp[Store.keys])
 have hK2:b2∉σk.keys:=cF hnd1 (by simp[Store.keys])
 have hnd2:=j8 hnd1
 have hW1:b1∉σw.keys:=cF hnd2 (by simp[Store.keys])
 have hW2:b2∉σw.keys:=cF hnd2 (by simp[Store.keys])
 have hnd3:=j8 hnd2
 have hH1:b1∉σh.keys:=cF hnd3 (by simp[Store.keys])
 have hH2:b2∉σh.keys:=cF hnd3 (by simp[Store.keys])
 (try simp only[EVz,seval,↓reduceIte,EV6,EV7,ao hK1,ao hK2,ap hK1,ap hK2,ao hW1,ao hW2,ap hW1,ap hW2,ao hH1,ao hH2,ap hH1,ap hH2,hb12,hb21,append_eq,append_assoc])
 intro b15 hb15
 refine⟨[[.sc (.slice bh u.head.length ch)],[.sc (.slice bw u.words.length cw)]],rfl,by simp,rfl,?_⟩
 (try simp only[EVz,seval,↓reduceIte,EV6,EV7,ao hK1,ao hK2,ap hK1,ap hK2,ao hW1,ao hW2,ap hW1,ap hW2,ao hH1,ao hH2,ap hH1,ap hH2,hb12,hb21,append_eq,append_assoc])
 have hnd0:(Store.keys (σk++(σw++(σh++[(b2,AObj.cells 27 [.int .i64 0,.int .i64 0,.int .i64 0,.int .i64 0,.str [],.nil,.nil,.nil]),(b1,AObj.cells 27 [.int .i64 0,.int .i64 0,.int .i64 0,.int .i64 u.kind,.str u.label,.sc (.slice bh u.head.length ch),.sc (.slice bw u.words.length cw),.sc (.slice bk u.kids.length ck)])])))).Nodup:=by simpa[Store.keys]using hnd1
 refine iy (ι:=Nat×Store×Store) (λp=>p.1<=2/\gk 64 4 ((if 0<p.1 then u.head.map Wd.bare else u.head).map Wd.cs) bh ch p.2.1/\gk 64 4 ((if 1<p.1 then u.words.map Wd.bare else u.words).map Wd.cs) bw cw p.2.2/\(Store.keys (σk++(p.2.2++(p.2.1++[(b2,AObj.cells 27 [.int .i64 0,.int .i64 0,.int .i64 0,.int .i64 0,.str [],.nil,.nil,.nil]),(b1,AObj.cells 27 [.int .i64 0,.int .i64 0,.int .i64 0,.int .i64 u.kind,.str u.label,.sc (.slice bh u.head.length ch),.sc (.slice bw u.words.length cw),.sc (.slice bk u.kids.length ck)])])))).Nodup)
  (λp=>2-p.1) (λp=>[(1,.sc (.pointer (some ⟨b1,0,none⟩))),(2,.sc (.pointer (some ⟨b2,0,none⟩))),(15,.own (some b15) 24 1 [[.sc (.slice bh u.head.length ch)],[.sc (.slice bw u.words.length cw)]]),(16,.int .i64 2),(17,.int .i64 p.1)]) (λp=>σk++(p.2.2++(p.2.1++[(b2,AObj.cells 27 [.int .i64 0,.int .i64 0,.int .i64 0,.int .i64 0,.str [],.nil,.nil,.nil]),(b1,AObj.cells 27 [.int .i64 0,.int .i64 0,.int .i64 0,.int .i64 u.kind,.str u.label,.sc (.slice bh u.head.length ch),.sc (.slice bw u.words.length cw),.sc (.slice bk u.kids.length ck)])]))) (0,σh,σw) ⟨Nat.zero_le _,hOh,hOw,hnd0⟩ (Weak.sub ((SubN.refl _).tail _)) ?_
 rintro⟨j,th,tw⟩ ⟨hj,hth,htw,hnd⟩
 simp only at hth htw hnd ⊢
 have hjj:j=0\/j=1\/j=2:=by omega
 rcases hjj with rfl|rfl|rfl
 ·simp only[Nat.lt_irrefl,if_false,show ¬(1<0)by omega]at hth htw
  (try simp only[EVz,seval,↓reduceIte,EV6,EV7,append_eq])
  have hwk:∀(i:Nat) (x:Wd),True:=λ_ _=>trivial
  refine Zq (ι:=Store) u.head (λi r c=>gk 64 4 (((u.head.take i).map Wd.bare++u.head.drop i).map Wd.cs) bh ch c/\(Store.keys (c++(σk++(tw++[(b2,AObj.cells 27 [.int .i64 0,.int .i64 0,.int .i64 0,.int .i64 0,.str [],.nil,.nil,.nil]),(b1,AObj.cells 27 [.int .i64 0,.int .i64 0,.int .i64 0,.int .i64 u.kind,.str u.label,.sc (.slice bh u.head.length ch),.sc (.slice bw u.words.length cw),.sc (.slice bk u.kids.length ck)])])))).Nodup)
   (λi c=>[(1,.sc (.pointer (some ⟨b1,0,none⟩))),(2,.sc (.pointer (some ⟨b2,0,none⟩))),(15,.own (some b15) 24 1 [[.sc (.slice bh u.head.length ch)],[.sc (.slice bw u.words.length cw)]]),(16,.int .i64 2),(17,.int .i64 0),(4,.sc (.slice bh u.head.length ch)),(22,.int .i64 u.head.length),(23,.int .i64 i)])
   (λi c=>c++(σk++(tw++[(b2,AObj.cells 27 [.int .i64 0,.int .i64 0,.int .i64 0,.int .i64 0,.str [],.nil,.nil,.nil]),(b1,AObj.cells 27 [.int .i64 0,.int .i64 0,.int .i64 0,.int .i64 u.kind,.str u.label,.sc (.slice bh u.head.length ch),.sc (.slice bw u.words.length cw),.sc (.slice bk u.kids.length ck)])]))) th ⟨by simpa using hth,(SubN.perm j6).2 hnd⟩ (Weak.sub (SubN.perm j6)) (by omega) (λi x r c hok hx hw=>?_) (λc hok hn=>?_)
  ·obtain⟨hO,hN⟩:=hok
   rcases hO with⟨h0,_,_⟩|⟨b,pad,rfl,rfl,hle,hcm,hrl,hln⟩
   ·exfalso
    have:=congrArg List.length h0
    have h9:=hx.lt
    simp at this
    omega
   ·have hrl0:=ou hx
    have hi:i<(((u.head.take i).map Wd.bare++u.head.drop i).map Wd.cs).length:=by rw[hrl0];exact hx.lt
    (try simp only[EVz,seval,↓reduceIte,EV6,EV7,hx.yes,hx.le0,hx.lt',hw,Nat.zero_add,append_eq])
    refine⟨by rw[hln];rw[hrl0]at hle;have:=hx.lt;omega,?_⟩
    rw[ez (sz:=4) (off:=1) (c:=[.int .i64 0,.int .i64 0,.int .i64 0]) (by decide) hrl hi,mj hx hi]
    (try simp only[EVz,seval,↓reduceIte,EV6,EV7,hw,append_eq])
    refine af hx [(b,.cells 64 ((((u.head.take (i+1)).map Wd.bare++u.head.drop (i+1)).map Wd.cs).flatten++pad))] ⟨.inr ⟨b,pad,rfl,rfl,?_,hcm,iX _,?_⟩,by simpa[Store.keys]using hN⟩ (Weak.rfl' _ _)
    ·rw[g7 hx];rw[hrl0]at hle;exact hle
    ·rw[←hln,length_append,length_append,ax _ (iX _),ax _ (iX _),g7 hx,hrl0]
  ·obtain⟨hO,hN⟩:=hok
   rw[take_length,drop_length,append_nil]at hO
   (try simp only[EVz,seval,↓reduceIte,EV6,EV7,hn])
   refine⟨(1,c,tw),⟨by omega,by simpa using hO,by simpa using htw,(SubN.perm j6.symm).2 hN⟩,by simp,?_⟩
   exact Weak.sub (SubN.perm j6.symm)
 ·simp only[Nat.lt_irrefl,if_false,show(0<1)by omega,if_true]at hth htw
  (try simp only[EVz,seval,↓reduceIte,EV6,EV7,append_eq])
  have hwk:∀(i:Nat) (x:Wd),True:=λ_ _=>trivial
  refine Zq (ι:=Store) u.words (λi r c=>gk 64 4 (((u.words.take i).map Wd.bare++u.words.drop i).map Wd.cs) bw cw c/\(Store.keys (c++(σk++(th++[(b2,AObj.cells 27 [.int .i64 0,.int .i64 0,.int .i64 0,.int .i64 0,.str [],.nil,.nil,.nil]),(b1,AObj.cells 27 [.int .i64 0,.int .i64 0,.int .i64 0,.int .i64 u.kind,.str u.label,.sc (.slice bh u.head.length ch),.sc (.slice bw u.words.length cw),.sc (.slice bk u.kids.length ck)])])))).Nodup)
   (λi c=>[(1,.sc (.pointer (some ⟨b1,0,none⟩))),(2,.sc (.pointer (some ⟨b2,0,none⟩))),(15,.own (some b15) 24 1 [[.sc (.slice bh u.head.length ch)],[.sc (.slice bw u.words.length cw)]]),(16,.int .i64 2),(17,.int .i64 1),(4,.sc (.slice bw u.words.length cw)),(22,.int .i64 u.words.length),(23,.int .i64 i)])
   (λi c=>c++(σk++(th++[(b2,AObj.cells 27 [.int .i64 0,.int .i64 0,.int .i64 0,.int .i64 0,.str [],.nil,.nil,.nil]),(b1,AObj.cells 27 [.int .i64 0,.int .i64 0,.int .i64 0,.int .i64 u.kind,.str u.label,.sc (.slice bh u.head.length ch),.sc (.slice bw u.words.length cw),.sc (.slice bk u.kids.length ck)])]))) tw ⟨by simpa using htw,(SubN.perm i6).2 hnd⟩ (Weak.sub (SubN.perm i6)) (by omega) (λi x r c hok hx hw=>?_) (λc hok hn=>?_)
  ·obtain⟨hO,hN⟩:=hok
   rcases hO with⟨h0,_,_⟩|⟨b,pad,rfl,rfl,hle,hcm,hrl,hln⟩
   ·exfalso
    have:=congrArg List.length h0
    have h9:=hx.lt
    simp at this
    omega
   ·have hrl0:=ou hx
    have hi:i<(((u.words.take i).map Wd.bare++u.words.drop i).map Wd.cs).length:=by rw[hrl0];exact hx.lt
    (try simp only[EVz,seval,↓reduceIte,EV6,EV7,hx.yes,hx.le0,hx.lt',hw,Nat.zero_add,append_eq])
    refine⟨by rw[hln];rw[hrl0]at hle;have:=hx.lt;omega,?_⟩
    rw[ez (sz:=4) (off:=1) (c:=[.int .i64 0,.int .i64 0,.int .i64 0]) (by decide) hrl hi,mj hx hi]
    (try simp only[EVz,seval,↓reduceIte,EV6,EV7,hw,append_eq])
    refine af hx [(b,.cells 64 ((((u.words.take (i+1)).map Wd.bare++u.words.drop (i+1)).map Wd.cs).flatten++pad))] ⟨.inr ⟨b,pad,rfl,rfl,?_,hcm,iX _,?_⟩,by simpa[Store.keys]using hN⟩ (Weak.rfl' _ _)
    ·rw[g7 hx];rw[hrl0]at hle;exact hle
    ·rw[←hln,length_append,length_append,ax _ (iX _),ax _ (iX _),g7 hx,hrl0]
  ·obtain⟨hO,hN⟩:=hok
   rw[take_length,drop_length,append_nil]at hO
   (try simp only[EVz,seval,↓reduceIte,EV6,EV7,hn])
   refine⟨(2,th,c),⟨by omega,by simpa using hth,by simpa using hO,(SubN.perm i6.symm).2 hN⟩,by simp,?_⟩
   exact Weak.sub (SubN.perm i6.symm)
 ·simp only[show(0<2)by omega,show(1<2)by omega,if_true]at hth htw
  have hT0:=j8 hnd
  have hT1:b1∉tw.keys:=cF hT0 (by simp[Store.keys])
  have hT2:b2∉tw.keys:=cF hT0 (by simp[Store.keys])
  have hT3:=j8 hT0
  have hT4:b1∉th.keys:=cF hT3 (by simp[Store.keys])
  have hT5:b2∉th.keys:=cF hT3 (by simp[Store.keys])
  (try simp only[EVz,seval,↓reduceIte,EV6,EV7,ao hT1,ao hT2,ap hT1,ap hT2,ao hT4,ao hT5,ap hT4,ap hT5,hb12,hb21,append_eq,append_assoc,ao hK1,ao hK2,ap hK1,ap hK2])
  refine Zq (ι:=Store) u.kids (λi r c=>gk 27 8 (((u.kids.take i).map U.strip++u.kids.drop i).map U.cs) bk ck c/\(Store.keys (c++(tw++(th++[(b2,AObj.cells 27 [.int .i64 0,.int .i64 0,.int .i64 0,.int .i64 0,.str [],.nil,.nil,.nil]),(b1,AObj.cells 27 [.int .i64 0,.int .i64 0,.int .i64 0,.int .i64 u.kind,.str u.label,.sc (.slice bh u.head.length ch),.sc (.slice bw u.words.length cw),.sc (.slice bk u.kids.length ck)])])))).Nodup)
   (λi c=>[(1,.sc (.pointer (some ⟨b1,0,none⟩))),(2,.sc (.pointer (some ⟨b2,0,none⟩))),(35,.int .i64 u.kids.length),(36,.int .i64 i)]) (λi c=>c++(tw++(th++[(b2,AObj.cells 27 [.int .i64 0,.int .i64 0,.int .i64 0,.int .i64 0,.str [],.nil,.nil,.nil]),(b1,AObj.cells 27 [.int .i64 0,.int .i64 0,.int .i64 0,.int .i64 u.kind,.str u.label,.sc (.slice bh u.head.length ch),.sc (.slice bw u.words.length cw),.sc (.slice bk u.kids.length ck)])]))) σk ⟨by simpa using hOk,hnd⟩ (Weak.rfl' _ _) (by omega) (λi x r c hok hx hw=>?_) (λc hok hn=>?_)
  ·obtain⟨hO,hN⟩:=hok
   rcases hO with⟨h0,_,_⟩|⟨b,pad,rfl,rfl,hle,hcm,hrl,hln⟩
   ·exfalso
    have:=congrArg List.length h0
    have h9:=hx.lt
    simp at this
    omega
   ·have hm0:=mix_len (g:=U.strip) (f:=U.cs) hx
    have hi:i<(((u.kids.take i).map U.strip++u.kids.drop i).map U.cs).length:=by rw[hm0];exact hx.lt
    have hbb:¬b=b1:=by
     intro e
     subst e
     exact cF hN (b:=b) (by simp[Store.keys]) (by simp[Store.keys])
    have htk:=jB (pad:=pad) hrl hi
    rw[mU hx hi]at htk
    have hroom:8<=((List.map U.cs (List.map U.strip (List.take i u.kids)++List.drop i u.kids)).flatten++pad).length-i*8:=by rw[hln];rw[hm0]at hle;have:=hx.lt;omega
    have hsp:=ez (sz:=8) (off:=0) (c:=x.strip.cs) (by rw[U.cs_len];omega) (pad:=pad) hrl hi
    rw[oX hx hi,Nat.add_zero]at hsp
    have hst:=ih x hx.mem (hs.kid hx.mem)
    (repeat' (first|(with_reducible refine AI (by omega) ?_)|(with_reducible refine ab hst ?_)|simp only[EVz,seval,↓reduceIte,EV6,EV7,hx.yes,hx.le0,hx.lt',hw,hbb,hb12,hb21,ao hT1,ao hT2,ao hT4,ao hT5,Nat.zero_add,append_eq,htk,hsp,length_drop,U.cs_len]|(with_reducible refine ak ?_ ?_)|(with_reducible refine am ?_)|fail))
    all_goals
     (try rw[hsp])
     refine af hx [(b,.cells 27 ((((u.kids.take (i+1)).map U.strip++u.kids.drop (i+1)).map U.cs).flatten++pad))] ⟨.inr ⟨b,pad,rfl,rfl,?_,hcm,jr _,?_⟩,by simpa[Store.keys]using hN⟩ (Weak.rfl' _ _)
     ·rw[lb hx];rw[hm0]at hle;exact hle
     ·rw[←hln,length_append,length_append,ax _ (jr _),ax _ (jr _),lb hx,hm0]
  ·obtain⟨hO,hN⟩:=hok
   rw[take_length,drop_length,append_nil]at hO
   have hC1:b1∉c.keys:=cF hN (by simp[Store.keys])
   have hC2:b2∉c.keys:=cF hN (by simp[Store.keys])
   (try simp only[EVz,seval,↓reduceIte,EV6,EV7,hn,ao hT1,ao hT2,ap hT1,ap hT2,ao hT4,ao hT5,ap hT4,ap hT5,hb12,hb21,append_eq,append_assoc,ao hC1,ao hC2,ap hC1,ap hC2])
   refine RET.mk' (σ':=c++(tw++th)) (SubN.app (SubN.app SubN.appL)) ⟨bh,ch,th,bw,cw,tw,bk,ck,c,?_,rfl,?_,?_,?_⟩
   ·rw[U.strip_eq];simp
   ·rw[U.strip_eq];exact hth
   ·rw[U.strip_eq];exact htw
   ·rw[U.strip_eq];exact hO
end
theorem U.lone_short {u:U} (hs:u.Short):u.lone.Short:=by
 have h0:=hs.2 u u.flat_self
 have hf:=(U.fit_eq u).1 hs.1.1
 have e:u.lone.flat=[u.lone]:=by rw[U.flat_eq];show _::U.flats []=_;rw[bt]
 refine⟨⟨(U.fit_eq _).2 ⟨hf.1,hf.2.1,hf.2.2.1,by simp[U.lone],by simp[U.lone]⟩,by rw[e];simp⟩,?_⟩
 intro x hx
 rw[e,mem_singleton]at hx
 subst hx
 exact h0
theorem fit_strip:∀u:U,u.fit->u.strip.fit:=by
 refine U.ind λu ih hf=>?_
 obtain⟨a,⟨b,b2⟩,⟨c,c2⟩,d,e⟩:=(U.fit_eq u).1 hf
 rw[U.strip_eq]
 refine(U.fit_eq _).2 ⟨a,⟨by simpa using b,?_⟩,⟨by simpa using c,?_⟩,by simpa using d,?_⟩
 ·intro x hx
  obtain⟨w,hw,rfl⟩:=mem_map.1 hx
  exact b2 w hw
 ·intro x hx
  obtain⟨w,hw,rfl⟩:=mem_map.1 hx
  exact c2 w hw
 ·intro x hx
  obtain⟨k,hk,rfl⟩:=mem_map.1 hx
  exact ih k hk (e k hk)
theorem jP {u:U} (hs:u.Short):u.strip.Short:=by
 refine⟨⟨fit_strip u hs.1.1,by rw[fj,length_map];exact hs.1.2⟩,?_⟩
 intro x hx
 rw[fj]at hx
 obtain⟨y,hy,rfl⟩:=mem_map.1 hx
 obtain⟨h1,h2,h3,h4,h5⟩:=hs.2 y hy
 rw[U.strip_eq]
 refine⟨h1,by simpa using h2,by simpa using h3,?_,?_⟩
 ·intro w hw
  obtain⟨w',hw',rfl⟩:=mem_map.1 hw
  exact h4 w' hw'
 ·intro w hw
  obtain⟨w',hw',rfl⟩:=mem_map.1 hw
  exact h5 w' hw'
theorem U.Short.node {u x:U} (hs:u.Short) (hx:x∈u.flat):x.Short:=by
 induction u using U.ind with
 |h u ih=>
  rw[U.flat_eq]at hx
  rcases mem_cons.1 hx with rfl|hx
  ·exact hs
  ·obtain⟨k,hk,hx⟩:=js hx
   exact ih k hk (hs.kid hk) hx
theorem repeat2 (n:Nat):Lib.repeatL [32,32] n=List.replicate (2*n) 32:=by
 induction n with
 |zero=>rfl
 |succ n ih=>rw[Lib.repeatL,ih,Nat.mul_add];simp[replicate_succ]
theorem kQ {τ:Store} {w:World} {b:Nat}:∀(xs:List (List UInt8)) (i:Nat),av τ w ⟨b,0,none⟩ 1 i (xs.map srow)->∀(j:Nat) x,xs[j]? =some x->w.cell? ⟨b,i+j,none⟩=some (.string ⟨⟨x⟩⟩)
 |[],i,_,j,x,hx=>by simp at hx
 |y::xs,i,h,j,x,hx=>by
  simp only[srow,map_cons,av,RepAt,Rep]at h
  obtain⟨_,⟨⟨u,hF,_,rfl⟩,_⟩,hr⟩:=h
  cases j with
  |zero=>
   simp at hx
   subst hx
   have e:(⟨b,0,none⟩:Addr).add (i*1)=⟨b,i,none⟩:=by unfold Addr.add;by_cases hi:i=0<;>simp[hi]
   have:=hF.1
   rw[e]at this
   exact this
  |succ j=>
   have:=kQ xs (i+1) hr j x (by simpa using hx)
   rw[show i+(j+1)=i+1+j by omega]
   exact this
section
variable (G:Glob)
theorem f260 (n:Nat) (hn:n<=8):Pure G Tryz.prog 260 [.str [32,32],.int .i64 n] (.str (List.replicate (2*n) 32)):=by
 refine Pure.of_calls Tryz.func260 (by kernel_rfl) (by kernel_rfl) λτ w vs hS hA=>?_
 obtain⟨u,v,rfl,h1,h2⟩:=jD hA
 simp only[Rep]at h1 h2
 subst h1 h2
 refine⟨.string ⟨⟨List.replicate (2*n) 32⟩⟩,λ_ _=>by simp only[Rep],?_⟩
 have hsz:(⟨⟨[32,32]⟩⟩:ByteArray).size=2:=rfl
 refine(Tryz.strings_Repeat ⟨⟨[32,32]⟩⟩ n w (by omega) (by rw[hsz];omega)).mono ?_
 rintro e w' ⟨rfl,hB⟩
 exact⟨by rw[←repeat2],hB⟩
theorem f213 (g:Option Nat) (xs:List (List UInt8)) (sep:List UInt8) (hn:xs.length<=1000000) (hl:(Lib.join xs sep).length<=140737488355328):Pure G Tryz.prog 213 [.own g 9 1 (xs.map srow),.str sep] (.str (Lib.join xs sep)):=by
 refine Pure.of_calls Tryz.func213 (by kernel_rfl) (by kernel_rfl) λτ w vs hS hA=>?_
 obtain⟨u,v,rfl,h1,h2⟩:=jD hA
 simp only[Rep]at h2
 subst h2
 refine⟨.string ⟨⟨Lib.join xs sep⟩⟩,λ_ _=>by simp only[Rep],?_⟩
 have none_:∀a c,xs=[]->Calls Tryz.prog 213 #[.slice a 0 c,.string ⟨⟨sep⟩⟩] w λe w'=>e= .returned (.string ⟨⟨Lib.join xs sep⟩⟩)/\Below w.heap.size w w':=by
  rintro a c rfl
  refine(Tryz.strings_Join_none a c ⟨⟨sep⟩⟩ w).mono ?_
  rintro e w' ⟨rfl,rfl⟩
  exact⟨rfl,Below.refl _ _⟩
 cases g with
 |none=>
  simp only[Rep]at h1
  obtain⟨rfl,hx⟩:=h1
  exact none_ _ _ (by simpa using hx)
 |some b=>
  simp only[Rep]at h1
  obtain⟨cap,rfl,hc,hm,hsh,hr⟩:=h1
  rw[length_map]at hc ⊢
  by_cases hx:xs=[]
  ·subst hx
   exact none_ _ _ rfl
  ·have e1:(xs.map (λx=>(⟨⟨x⟩⟩:ByteArray))).map (·.data.toList)=xs:=by rw[map_map];exact map_id xs
   have hb:b<w.heap.size:=by
    rcases Nat.lt_or_ge b w.heap.size with h|h
    ·exact h
    ·have:w.heap[b]? =none:=Array.getElem?_eq_none h
     simp[World.shape?,this]at hsh
   have hcells:∀(j:Nat) x,(xs.map (λx=>(⟨⟨x⟩⟩:ByteArray)))[j]? =some x->w.cell? ⟨b,0+j,none⟩=some (.string x):=by
    intro j x hj
    simp only[getElem?_map,Option.map_eq_some_iff]at hj
    obtain⟨y,hy,rfl⟩:=hj
    exact kQ xs 0 hr j y hy
   have h:=Tryz.strings_Join b 0 cap (xs.map (λx=>(⟨⟨x⟩⟩:ByteArray))) ⟨⟨sep⟩⟩ w hcells hb (by simp;omega) (by simpa using hc) (by rw[e1];exact hl)
   rw[e1,length_map]at h
   exact h
theorem f261 (s:List UInt8) (l:List Wd) (hs:s.length<=1000000) (hr:aS l=true):Pure G Tryz.prog 261 [.str s,.lst 4 (l.map Wd.cs)] (.str (s++wordsT l)):=by
 have hl:=row_len hr
 refine Pure.w c261 λR hR=>?_
 unfold s261 r261
 (repeat' (first|(with_reducible (first|refine ae (λh=>?_) (λh=>?_)|refine ag (λh=>?_) (λh=>?_))<;>(try simp only[Da,Db,Dc,Dw,De,Df,Dg,Dh]at h))|(with_reducible refine AI (by omega) ?_)|simp only[EVz,seval,↓reduceIte,EV6,EV7,length_append,length_cons,length_nil,hx.yes,hx.le0,hx.lt',hx.get,hx.row,hw]|simp only[EVz,seval,↓reduceIte,EV6,EV7,length_append,length_cons,length_nil,hn]|simp only[EVz,seval,↓reduceIte,EV6,EV7,length_append,length_cons,length_nil]|(with_reducible intro blk hblk;(try(have hnx:=hblk;simp only[EVK]at hnx;(have hne:=hnx))))|(refine Zq (ι:=List UInt8) (l) (λi r c=>s++wordsT l=c++wordsT r/\c.length<=s.length+i*26) (λi c=>[(0,.str c),(7,.lst 4 (l.map Wd.cs)),(8,.int .i64 l.length),(9,.int .i64 i)]) (λ_ _=>[]) (s) (by((simp;done))) (Weak.rfl' _ _) (by omega) (λi x r c hok hx hw=>?_) (λc hok hn=>?_)<;>(try(obtain⟨hp,hp2⟩:=row_word hr hx.mem;have hil:=hx.lt)))|(refine af hx _ ?_ (Weak.sub (SubN.nil _)))|fail))
 ·rw[hok.1]
  have e:escT x.text=92::x.text:=by unfold escT;rw[if_pos];right;exact UInt8.toNat_inj.1 (by show _=92;omega)
  exact⟨by simp[wordsT,e],by omega⟩
 ·rename_i h2
  rw[hok.1]
  have e:escT x.text=x.text:=by
   unfold escT
   rw[if_neg]
   rintro(h3|h3)
   ·exact h2 (by rw[h3];rfl)
   ·exact h (by rw[h3];rfl)
  exact⟨by simp[wordsT,e],by omega⟩
 ·rw[hok.1]
  have e:escT x.text=92::x.text:=by unfold escT;rw[if_pos];left;exact UInt8.toNat_inj.1 (by show _=124;omega)
  exact⟨by simp[wordsT,e],by omega⟩
 ·exact RET.eq hR (by rw[hok.1];simp[wordsT])
end
theorem lone_cs (u:U):u.lone.cs=[.int .i64 0,.int .i64 0,.int .i64 0,.int .i64 u.kind,.str u.label,.lst 4 (u.head.map Wd.cs),.lst 4 (u.words.map Wd.cs),.lst 8 []]:=by rw[U.cs_eq];rfl
section
variable (G:Glob) (hG:GOk G)
include hG
theorem f259 (u:U) (d:Int) (hs:u.Short):Pure G Tryz.prog 259 [.agg u.cs,.int .i64 d] (.bool ((decide (0<=d)&&decide (d<=8))&&alone11 u)):=by
 have hS:=f243 G u.lone (U.lone_short hs)
 have hV:=f34 G hG u.lone.strip (jP (U.lone_short hs))
 rw[tree_lone]at hV
 rw[lone_cs]at hS
 rw[U.cs_eq u]
 refine Pure.w c259 λR hR=>?_
 unfold s259 r259
 (repeat' (first|(with_reducible (refine ag (λh=>?_) (λh=>?_))<;>(try simp only[Da,Db,Dc,Dw,De,Df,Dg,Dh]at h))|(with_reducible refine ab hV ?_)|simp only[EVz,seval,↓reduceIte,EV6,EV7]|(with_reducible intro blk hblk;(try(have hnx:=hblk;simp only[EVK]at hnx;(have hne:=hnx))))|(refine aC hS ⟨.inr ⟨.inl rfl,.inl rfl,.inl rfl,.inl rfl,.inl rfl,.inl rfl,.inl rfl,.inr rfl,trivial⟩,trivial⟩ ?_)|fail))
 all_goals(refine RET.eq hR (congrArg AV.bool ?_);first|(simp[*];done)|(rw[decide_eq_false (p:=0<=d) (by omega)];rfl)|(rw[decide_eq_false (p:=d<=8) (by omega),Bool.and_false];rfl))
theorem f245 (u:U) (n:Nat) (hs:u.Short) (hn:n<=1000000):Pure G Tryz.prog 245 [.agg u.cs,.int .i64 n] (.str (lineOf u n)):=by
 have hm:=f259 G hG u n hs
 have hkn:=f83 G hG u.kind
 refine Pure.w c245 λR hR=>?_
 unfold s245 r245
 by_cases ha:alone11 u=true/\n<=8
 ·obtain⟨a0,a7,ah,aw,al⟩:=alone_facts ha.1
  have b1:=wordsT_row ah
  have b2:=wordsT_row aw
  have b3:=kindText_len u.kind
  have hrp:=f260 G n ha.2
  rw[ha.1,Bool.and_true,show(decide ((0:Int)<=n)&&decide ((n:Int)<=8))=true by simp;omega]at hm
  rw[if_pos ⟨a0,a7⟩]at hkn
  have ea:lineOf u n=lineT u n:=by unfold lineOf;rw[if_pos ⟨ha.2,ha.1⟩]
  rw[ea]at hR
  have hp1:=λs hs=>f261 G s u.head hs ah
  have hp2:=λs hs=>f261 G s u.words hs aw
  (repeat' (first|(with_reducible (refine ae (λh=>?_) (λh=>?_))<;>(try simp only[Da,Db,Dc,Dw,De,Df,Dg,Dh]at h))|(with_reducible refine AI (by omega) ?_)|(with_reducible first|refine ab hm ?_|refine ab hkn ?_|refine ab hrp ?_|refine ab (hp1 _ (by simp;omega)) ?_|refine ab (hp2 _ (by simp;omega)) ?_)|simp only[EVz,seval,↓reduceIte,EV6,EV7,length_append,length_cons,length_nil,length_replicate]|fail))
  all_goals(refine RET.eq hR (congrArg AV.str ?_);unfold lineT;(repeat first|rw[if_pos (by omega)]|rw[if_neg (by omega)]);simp;done)
 ·have e:((decide ((0:Int)<=n)&&decide ((n:Int)<=8))&&alone11 u)=false:=by
   rw[Bool.eq_false_iff]
   intro h
   simp at h
   exact ha ⟨h.2,by omega⟩
  rw[e]at hm
  have ea:lineOf u n=[]:=by unfold lineOf;rw[if_neg (λh=>ha ⟨h.2,h.1⟩)]
  rw[ea]at hR
  (repeat' (first|(with_reducible refine ab hm ?_)|simp only[EVz,seval,↓reduceIte,EV6,EV7]|fail))
  (all_goals((exact RET.eq hR rfl)))
end
def gl:List U->AV
 |[]=>.nil
 |x::l=>.lst 8 ((x::l).map U.cs)
theorem nF {l:List U} (h:l≠[]):gl l= .lst 8 (l.map U.cs):=by cases l<;>simp_all[gl]
theorem el:∀(i:Idd) (u:U),(U.way i u).length<=u.flat.length:=by
 intro i
 refine U.ind λu ih=>?_
 have h:∀us:List U,(∀k∈us,(U.way i k).length<=k.flat.length)->(U.ways i us).length<=(U.flats us).length:=by
  intro us
  induction us with
  |nil=>intro _;rw[U.ways_nil];simp
  |cons k us ihu=>
   intro h
   have h1:=h k (by simp)
   have h2:=ihu λk hk=>h k (by simp[hk])
   rw[U.ways_cons,aD,length_append]
   cases hw:U.way i k with
   |nil=>simp only[orW];omega
   |cons x l=>rw[hw]at h1;simp only[orW];omega
 have h1:=h u.kids ih
 rw[U.way_eq,U.flat_eq,length_cons]
 split
 ·simp
 ·cases hw:U.ways i u.kids with
  |nil=>simp[fN]
  |cons x l=>rw[hw]at h1;simp only[fN,length_cons]at*;omega
theorem app_new {e:TypeId} {sz bytes m blk:Nat} {σ:Store} {rows ys:List (List AV)} {K:AV->Store->Prop} (hm:m=rows.length*sz)
  (hn:(rows.length+ys.length)*bytes<=140737488355328) (hk:∀g',K (.own g' e sz (rows++ys)) (tokS g' e ((rows++ys).length*sz))):appX e sz bytes ((blk,.tok e m)::σ) (some blk) rows ys K:=
 cH (m:=m) (λd h=>by injection h with h;subst h;simp[Store.get]) hm rfl hn hk
theorem way_flat {t:Idd}:∀u:U,∀v∈U.way t u,v∈u.flat:=by
 refine U.ind λu ih v hv=>?_
 have h:∀us:List U,(∀k∈us,∀v∈U.way t k,v∈k.flat)->∀v∈U.ways t us,v∈U.flats us:=by
  intro us
  induction us with
  |nil=>intro _ v hv;rw[U.ways_nil]at hv;cases hv
  |cons k us ihu=>
   intro h v hv
   rw[U.ways_cons]at hv
   rw[aD,mem_append]
   cases hw:U.way t k with
   |nil=>rw[hw]at hv;exact .inr (ihu (λk hk=>h k (by simp[hk])) v hv)
   |cons x l=>rw[hw]at hv;exact .inl (h k (by simp) v (by rw[hw];exact hv))
 rw[U.way_eq]at hv
 rw[U.flat_eq]
 split at hv
 ·simp only[mem_singleton]at hv;subst hv;exact mem_cons_self ..
 ·cases hw:U.ways t u.kids with
  |nil=>rw[hw]at hv;cases hv
  |cons x l=>
   rw[hw]at hv
   rcases mem_cons.1 hv with rfl|hv
   ·exact mem_cons_self ..
   ·exact mem_cons_of_mem _ (h u.kids ih v (by rw[hw];exact hv))
section
variable (G:Glob)
theorem f42 (k:Int):Pure G Tryz.prog 42 [.int .i64 k] (.bool (chg k)):=by
 refine Pure.w c42 λR hR=>?_
 unfold s42 r42
 (repeat' (first|(with_reducible (refine ag (λh=>?_) (λh=>?_))<;>(try simp only[Da,Db,Dc,Dw,De,Df,Dg,Dh]at h))|simp only[EVz,seval,↓reduceIte,EV6,EV7]|fail))
 (all_goals(((refine RET.eq hR ?_;(refine congrArg AV.bool (Bool.eq_iff_iff.2 ?_);simp only[chg,EVB]at*;omega)))))
theorem f161 (n:Int):Pure G Tryz.prog 161 [.int .i64 n] (.bool (inR n 0 3)):=by
 refine Pure.w c161 λR hR=>?_
 unfold s161 r161
 (repeat' (first|(with_reducible (refine ag (λh=>?_) (λh=>?_))<;>(try simp only[Da,Db,Dc,Dw,De,Df,Dg,Dh]at h))|simp only[EVz,seval,↓reduceIte,EV6,EV7]|fail))
 (all_goals(((refine RET.eq hR ?_;(refine congrArg AV.bool (Bool.eq_iff_iff.2 ?_);simp only[inR,EVB]at*;omega)))))
theorem f189 (u:U) (s:Stp):Pure G Tryz.prog 189 [.agg u.cs,.agg [.int .i64 s.kind,.str s.label]] (.bool (aJ u s)):=by
 refine Pure.w c189 λR hR=>?_
 unfold s189 r189
 (repeat' (first|(with_reducible (refine ag (λh=>?_) (λh=>?_))<;>(try simp only[Da,Db,Dc,Dw,De,Df,Dg,Dh]at h))|simp only[EVz,seval,↓reduceIte,EV6,EV7]|fail))
 (all_goals(first|(refine RET.eq hR ?_;(refine congrArg AV.bool (Bool.eq_iff_iff.2 ?_);simp only[aJ,EVB]at*;omega))|(refine RET.eq hR ?_;((simp_all[aJ];done)))))
theorem f202 (u:U) (s:Stp):Pure G Tryz.prog 202 [.agg u.cs,.agg [.int .i64 s.kind,.str s.label]] (.bool (aJ u s)):=by
 refine Pure.w c202 λR hR=>?_
 unfold s202 r202
 (repeat' (first|(with_reducible (refine ag (λh=>?_) (λh=>?_))<;>(try simp only[Da,Db,Dc,Dw,De,Df,Dg,Dh]at h))|simp only[EVz,seval,↓reduceIte,EV6,EV7]|fail))
 (all_goals(first|(refine RET.eq hR ?_;(refine congrArg AV.bool (Bool.eq_iff_iff.2 ?_);simp only[aJ,EVB]at*;omega))|(refine RET.eq hR ?_;((simp_all[aJ];done)))))
theorem f22:∀(u:U),u.Tame->Pure G Tryz.prog 22 [.agg u.cs] (.lst 8 (u.flat.map U.cs)):=by
 refine U.ind λu ih ht=>?_
 have hkl:=ht.kids
 have hc:=ht.2
 refine Pure.w c22 λR hR=>?_
 unfold s22 r22
 rw[U.flat_eq]at hR hc
 simp only[length_cons]at hc
 (repeat' (first|(with_reducible refine ab (ih x hx.mem (ht.kid hx.mem)) ?_)|simp only[EVz,seval,↓reduceIte,EV6,EV7,hx.yes,hx.le0,hx.lt',hx.get,hx.row,hw]|simp only[EVz,seval,↓reduceIte,EV6,EV7,hn]|simp only[EVz,seval,↓reduceIte,EV6,EV7]|(with_reducible intro blk hblk;(try(have hnx:=hblk;simp only[EVK]at hnx;(have hne:=hnx))))|(refine⟨[u.cs],rfl,(by simp[U.cs_len]),(by simp),?_⟩)|(refine Zq (ι:=Option Nat×List U) u.kids (λi r c=>u::U.flats u.kids=c.2++U.flats r) (λi c=>[(1,.ref u.cs),(3,.own c.1 27 8 (c.2.map U.cs)),(4,.int .i64 i)]) (λi c=>tokS c.1 27 (c.2.length*8)) (some blk,[u]) (by simp) (Weak.rfl' _ _) (by omega) (λi x r c hok hx hw=>?_) (λc hok hn=>?_))|fail))
 ·have h1:=congrArg List.length hok
  simp only[length_cons,length_append,aD]at h1
  refine cH (m':=(c.2++x.flat).length*8) bI (by simp) (by simp) (by simp;omega) (λgn=>?_)
  exact af hx (gn,c.2++x.flat) (by rw[hok,aD,append_assoc]) (by simp only[map_append];exact Weak.rfl' _ _)
 ·exact hR _ _ (Or.inl (Or.inr ⟨rfl,by rw[hok];simp[U.flats]⟩))
theorem f50 (j:Idd):∀(u:U),u.Tame->Pure G Tryz.prog 50 [.agg u.cs,.agg j.cs] (gl (U.way j u)):=by
 refine U.ind λu ih ht=>?_
 have hkl:=ht.kids
 have hc:=ht.2
 have hwl:=el j u
 refine Pure.w c50 λR hR=>?_
 unfold s50 r50
 rw[U.way_eq]at hR hwl
 by_cases h0:u.id=j
 ·have e0:decide (u.id=j)=true:=decide_eq_true h0
  rw[if_pos h0]at hR
  (repeat' (first|simp only[EVz,seval,↓reduceIte,EV6,EV7,ai,e0]|(with_reducible intro blk hblk;(try(have hnx:=hblk;simp only[EVK]at hnx;(have hne:=hnx))))|(refine⟨[u.cs],rfl,(by simp[U.cs_len]),(by simp),?_⟩)|fail))
  exact hR _ _ (Or.inl (Or.inr ⟨rfl,rfl⟩))
 ·have e0:decide (u.id=j)=false:=decide_eq_false h0
  rw[if_neg h0]at hR hwl
  simp only[Idd.cs]at ih
  (repeat' (first|simp only[EVz,seval,↓reduceIte,EV6,EV7,ai,e0,hx.yes,hx.le0,hx.lt',hx.get,hx.row,hw]|simp only[EVz,seval,↓reduceIte,EV6,EV7,ai,e0,hn]|simp only[EVz,seval,↓reduceIte,EV6,EV7,ai,e0]|(with_reducible intro blk hblk;(try(have hnx:=hblk;simp only[EVK]at hnx;(have hne:=hnx))))|(refine Zq (u.kids) (λi r (c:Unit)=>U.ways j u.kids=U.ways j r) (λi c=>[(2,.ref u.cs),(3,.ref j.cs),(15,.lst 8 (u.kids.map U.cs)),(16,.int .i64 u.kids.length),(17,.int .i64 i)]) (λ_ _=>[]) () (by rfl) (Weak.rfl' _ _) (by omega) (λi x r c hok hx hw=>?_) (λc hok hn=>?_))|fail))
  ·have h:=ih x hx.mem (ht.kid hx.mem)
   rw[U.ways_cons]at hok
   cases hwx:U.way j x with
   |nil=>
    rw[hwx]at h hok
    simp only[gl]at h
    (repeat' (first|(with_reducible refine ab h ?_)|simp only[EVz,seval,↓reduceIte,EV6,EV7,hw]|fail))
    exact af hx () hok (Weak.sub (SubN.nil _))
   |cons y l=>
    rw[hwx]at h hok
    simp only[gl,map_cons]at h
    (repeat' (first|(with_reducible (refine ae (λh=>?_) (λh=>?_))<;>(try simp only[Da,Db,Dc,Dw,De,Df,Dg,Dh]at h))|(with_reducible refine ab h ?_)|simp only[EVz,seval,↓reduceIte,EV6,EV7,hw]|(with_reducible intro blk hblk;(try(have hnx:=hblk;simp only[EVK]at hnx;(have hne:=AI hnx hne))))|(refine⟨[u.cs],rfl,(by simp[U.cs_len]),(by simp),?_⟩)|fail))
    ·have e:fN u (U.ways j u.kids)=u::y::l:=by rw[hok];rfl
     rw[e]at hR hwl
     simp only[length_cons]at hwl
     refine app_new (by simp) (by simp;omega) (λgn=>?_)
     exact hR _ _ (Or.inl (Or.inr ⟨rfl,by simp⟩))
    ·have:=hblk (by simp)
     rw[this]at h
     cases h
  ·rw[hok,U.ways_nil]at hR
   exact RET.eq hR rfl
theorem get_last {l:List U} {x y:U} (h:(x::l).getLast?=some y):((x::l).map U.cs).getD l.length []=y.cs:=by
 have:(x::l)[l.length]? =some y:=by
  rw[getLast?_eq_getElem?]at h
  simpa using h
 simp only[List.getD,getElem?_map,this,Option.map_some,Option.getD_some]
def i8 (j:Idd) (u:U):AV:=if (U.way j u).isEmpty then .tup [.agg zU,.bool false]else .tup [.agg (fnd j u).cs,.bool true]
theorem f31 (j:Idd) (u:U) (hs:u.Short):Pure G Tryz.prog 31 [.agg u.cs,.agg j.cs] (i8 j u):=by
 have hW:=f50 G j u hs.1
 have hwl:=el j u
 have hc:=hs.1.2
 refine Pure.w c31 λR hR=>?_
 unfold s31 r31
 unfold i8 at hR
 simp only[Idd.cs]at hW ⊢
 cases hw:U.way j u with
 |nil=>
  rw[hw]at hW hR
  simp only[gl]at hW
  (repeat' (first|(with_reducible refine ab hW ?_)|simp only[EVz,seval,↓reduceIte,EV6,EV7]|(with_reducible intro blk hblk;(try(have hnx:=hblk;simp only[EVK]at hnx;(have hne:=hnx))))|fail))
  exact hR _ _ (Or.inl (Or.inl rfl))
 |cons x l=>
  obtain⟨y,hy⟩:∃y,(x::l).getLast?=some y:=⟨_,getLast?_eq_some_getLast (by simp)⟩
  have hf:fnd j u=y:=aF (by rw[hw];exact hy)
  have hyu:y.Short:=hs.node (way_flat u y (by rw[hw];exact mem_of_getLast? hy))
  have hg:=get_last hy
  have hC:=kF.freeze (f51 G y hyu)
  rw[hw]at hW hR hwl
  rw[hf]at hR
  simp only[gl,map_cons]at hW hg
  simp only[length_cons]at hwl
  have hwp:IntKind.i64.wrap (((l.length+1:Nat):Int)-1)=(l.length:Int):=by rw[au (by omega) (by omega)];omega
  (repeat' (first|(with_reducible (refine ae (λh=>?_) (λh=>?_))<;>(try simp only[Da,Db,Dc,Dw,De,Df,Dg,Dh]at h))|(with_reducible refine AI (by omega) ?_)|(with_reducible first|refine ab hW ?_|refine ab hC ?_)|simp only[EVz,seval,↓reduceIte,EV6,EV7,hwp,hg]|(with_reducible intro blk hblk;(try(have hnx:=hblk;simp only[EVK]at hnx;(have hne:=hnx))))|(exfalso;omega)|fail))
  exact hR _ _ (Or.inl (Or.inl rfl))
end
section
variable (G:Glob)
end
section
variable (G:Glob)
end
section
variable (G:Glob)
end
structure Ac where
 number:Int
 title:List UInt8
 day:Int
 start:Sta
 items:List Itm
def Ac.cs (a:Ac):List AV:=[.int .i64 a.number,.str a.title,.int .i64 a.day,.int .i64 a.start.kind,.int .i64 a.start.day,.str a.start.event,.lst 25 (a.items.map Itm.cs)]
section
variable (G:Glob)
end
section
variable (G:Glob)
end
end Go.Av
namespace Go.Av
open Go Go.RowKit List
set_option linter.unusedSimpArgs false
set_option linter.unusedVariables false
section
variable {G:Glob} {P:Program} {k:FuncId} {args:List AV} {e:TypeId} {sz:Nat} {rows:List (List AV)}
end
/-! ### rows that point nowhere -/
def AV.flat:AV->Bool
 | .bool _=>true
 | .int _ _=>true
 | .str _=>true
 |_=>false
theorem AV.flat_rep {σ σ':Store} {w w':World}:∀{x:AV} {u:Value},x.flat=true->Rep σ w x u->Rep σ' w' x u
 | .bool _,_,_,h=>by simp only[Rep]at h ⊢;exact h
 | .int _ _,_,_,h=>by simp only[Rep]at h ⊢;exact h
 | .str _,_,_,h=>by simp only[Rep]at h ⊢;exact h
section
variable {G:Glob} {P:Program} {k:FuncId} {args:List AV} {e:TypeId} {sz:Nat} {rows:List (List AV)}
end
end Go.Av
namespace Go.Av
open Go Go.RowKit Go.Proofs List
set_option linter.unusedSimpArgs false
set_option linter.unusedVariables false
section
variable (G:Glob)
end
theorem eK {G:Glob} {P:Program} {f:Value} {args:List AV} {σ:Store} {K:AV->Store->Prop} {t:Tag K} {v:AV}
  (h:cZ G P f args σ λr σ'=>r=v/\σ'=σ) (hk:K v σ):CALL G P f args σ K t:=
 bg σ [] h (aB.rfl' _) (by rw[append_nil];exact SubN.refl _) (by rintro _ _ ⟨rfl,rfl⟩;rw[append_nil];exact hk)
theorem aj.wk {G:Glob} {P:Program} {k:FuncId} {args:List AV} {σ:Store} {r:AV} {g:List Nat} {ts:List (Nat×Option (Bool×Nat))} {s:SCode} (hk:fnAt P k g=some (ts,s))
  (h:∀R,(∀x σ',AVle x r->SubN σ σ'->RET x σ' R)->W G P s (retQ ts R) (dg 0 args) σ ⟨⟩):aj G P k args σ λx σ'=>x=r/\σ'=σ:=
 aj.at hk (h _ λx σ' hx hs=>⟨r,σ,hx,hs,rfl,rfl⟩)
section
variable (G:Glob)
end
end Go.Av

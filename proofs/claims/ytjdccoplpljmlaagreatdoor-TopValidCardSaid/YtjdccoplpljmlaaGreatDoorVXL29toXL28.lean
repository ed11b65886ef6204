/-
  LINT, 29: trees stripped by the program.
-/
import Derived.Test.YtjdccoplpljmlaaGreatDoorVXY10toXL27
import Derived.Test.YtjdccoplpljmlaaGreatDoorVXL18toXL21
import Derived.Lib.Join
namespace Go.Av
open Go Go.RowKit Go.Proofs List
set_option linter.unusedSimpArgs false
set_option linter.unusedVariables false
theorem mix_len {α:Type} {g:α->α} {f:α->List AV} {l:List α} {i:Nat} {x:α} {r:List α} (E:Rest l i x r):(((l.take i).map g++l.drop i).map f).length=l.length:=by
 simp;have:=E.lt;omega
theorem kt {α:Type} {g:α->α} {f:α->List AV} {l:List α} {i:Nat} {x:α} {r:List α} (E:Rest l i x r):(((l.take (i+1)).map g++l.drop (i+1)).map f).length=l.length:=by
 simp;have:=E.lt;omega
theorem mn {α:Type} {g:α->α} {f:α->List AV} {l:List α} {i:Nat} {x:α} {r:List α} (E:Rest l i x r) (hi:i<(((l.take i).map g++l.drop i).map f).length):(((l.take i).map g++l.drop i).map f)[i]=f x:=by
 have F:=E.lt
 have I:=E.get x
 rw[getElem_map,getElem_append_right (by simp;omega)]
 simp only[length_map,length_take,getElem_drop]
 congr 1
 have e:i+(i-min i l.length)=i:=by omega
 simp only[e]
 simpa[F]using I
theorem mix_set {α:Type} {g:α->α} {f:α->List AV} {l:List α} {i:Nat} {x:α} {r:List α} (E:Rest l i x r):(((l.take i).map g++l.drop i).map f).set i (f (g x))=((l.take (i+1)).map g++l.drop (i+1)).map f:=by
 have F:=E.lt
 rw[map_append,set_append_right _ _ (by simp;omega)]
 have e:i-(List.map f (List.map g (List.take i l))).length=0:=by simp;omega
 rw[e,E.take,map_append,map_append,map_append]
 have I:l.drop i=x::l.drop (i+1):=by
  rw[drop_eq_getElem_cons F]
  congr 1
  simpa[F]using E.get x
 rw[I]
 simp
theorem nf {l:List Wd} {i:Nat} {x:Wd} {r:List Wd} (E:Rest l i x r):(((l.take i).map Wd.bare++l.drop i).map Wd.cs).length=l.length:=mix_len E
theorem gz {l:List Wd} {i:Nat} {x:Wd} {r:List Wd} (E:Rest l i x r):(((l.take (i+1)).map Wd.bare++l.drop (i+1)).map Wd.cs).length=l.length:=kt E
theorem lP {l:List Wd} {i:Nat} {x:Wd} {r:List Wd} (E:Rest l i x r) (hi:i<(((l.take i).map Wd.bare++l.drop i).map Wd.cs).length):
  (((l.take i).map Wd.bare++l.drop i).map Wd.cs).set i (splice (((l.take i).map Wd.bare++l.drop i).map Wd.cs)[i] 1 [.int .i64 0,.int .i64 0,.int .i64 0])=(((l.take (i+1)).map Wd.bare++l.drop (i+1)).map Wd.cs):=by
 rw[mn E hi,←mix_set E]
 rfl
theorem oH {l:List U} {i:Nat} {x:U} {r:List U} (E:Rest l i x r) (hi:i<(((l.take i).map U.strip++l.drop i).map U.cs).length):
  (((l.take i).map U.strip++l.drop i).map U.cs).set i (splice (((l.take i).map U.strip++l.drop i).map U.cs)[i] 0 x.strip.cs)=(((l.take (i+1)).map U.strip++l.drop (i+1)).map U.cs):=by
 rw[mn E hi,←mix_set E]
 congr 1
 rw[aR _ _ _ (by rw[U.cs_len,U.cs_len];omega),U.cs_len,drop_of_length_le (by rw[U.cs_len];omega)]
 simp
theorem jz {a b c d:Store}:List.Perm (c++(a++(b++d))) (a++(b++(c++d))):=by
 have E:List.Perm (c++(a++(b++d))) ((a++b)++(c++d)):=by
  rw[←append_assoc a b d]
  exact perm_append_comm_assoc c (a++b) d
 rwa [append_assoc]at E
theorem iw {a b c:Store}:List.Perm (b++(a++c)) (a++(b++c)):=perm_append_comm_assoc b a c
section
variable (G:Glob)
set_option maxHeartbeats 4000000 in
theorem f142:∀(u:U),u.Short->Pure G Tryz.prog 142 [.agg u.cs] (.agg u.strip.cs):=by
 refine U.ind λu ih hs=>kD.freeze ?_
 have h0:=hs.2 u u.flat_self
 have ex:=hs.1.kids
 have ew:=h0.2.1
 have fl:=h0.2.2.1
 have hC:=f145 G u hs
 rw[U.cs_eq u]at hC ⊢
 refine aj.w c142 ?_
 unfold s142 r142
 (try simp only[EVz,seval,↓reduceIte,EV6,EV7])
 intro N eg O e1
 have I:¬N=O:=by simp only[EVK]at e1;exact λe=>e1 e.symm
 have V:¬O=N:=λe=>I e.symm
 (try simp only[EVz,seval,↓reduceIte,EV6,EV7,I,V])
 refine ay [] _ hC.v (aA.rfl' _) (SubN.refl _) ?_
 rintro _ _ ⟨X,Z,d1,Y,cw,d2,bk,ck,T,rfl,rfl,e4,e6,e5⟩ ad
 simp only[append_eq,append_assoc]at ad
 have al:N∉T.keys:=ce ad (by simp[Store.keys])
 have an:O∉T.keys:=ce ad (by simp[Store.keys])
 have bp:=jC ad
 have cm:N∉d2.keys:=ce bp (by simp[Store.keys])
 have cp:O∉d2.keys:=ce bp (by simp[Store.keys])
 have d3:=jC bp
 have bx:N∉d1.keys:=ce d3 (by simp[Store.keys])
 have cl:O∉d1.keys:=ce d3 (by simp[Store.keys])
 (try simp only[EVz,seval,↓reduceIte,EV6,EV7,ao al,ao an,au al,au an,ao cm,ao cp,au cm,au cp,ao bx,ao cl,au bx,au cl,I,V,append_eq,append_assoc])
 intro d4 ef
 refine⟨[[.sc (.slice X u.head.length Z)],[.sc (.slice Y u.words.length cw)]],rfl,by simp,rfl,?_⟩
 (try simp only[EVz,seval,↓reduceIte,EV6,EV7,ao al,ao an,au al,au an,ao cm,ao cp,au cm,au cp,ao bx,ao cl,au bx,au cl,I,V,append_eq,append_assoc])
 have e2:(Store.keys (T++(d2++(d1++[(O,AObj.cells 29 [.int .i64 0,.int .i64 0,.int .i64 0,.int .i64 0,.str [],.nil,.nil,.nil]),(N,AObj.cells 29 [.int .i64 0,.int .i64 0,.int .i64 0,.int .i64 u.kind,.str u.label,.sc (.slice X u.head.length Z),.sc (.slice Y u.words.length cw),.sc (.slice bk u.kids.length ck)])])))).Nodup:=by simpa[Store.keys]using ad
 refine bv (ι:=Nat×Store×Store) (λp=>p.1<=2/\fw 88 4 ((if 0<p.1 then u.head.map Wd.bare else u.head).map Wd.cs) X Z p.2.1/\fw 88 4 ((if 1<p.1 then u.words.map Wd.bare else u.words).map Wd.cs) Y cw p.2.2/\(Store.keys (T++(p.2.2++(p.2.1++[(O,AObj.cells 29 [.int .i64 0,.int .i64 0,.int .i64 0,.int .i64 0,.str [],.nil,.nil,.nil]),(N,AObj.cells 29 [.int .i64 0,.int .i64 0,.int .i64 0,.int .i64 u.kind,.str u.label,.sc (.slice X u.head.length Z),.sc (.slice Y u.words.length cw),.sc (.slice bk u.kids.length ck)])])))).Nodup)
  (λp=>2-p.1) (λp=>[(1,.sc (.pointer (some ⟨N,0,none⟩))),(2,.sc (.pointer (some ⟨O,0,none⟩))),(15,.own (some d4) 26 1 [[.sc (.slice X u.head.length Z)],[.sc (.slice Y u.words.length cw)]]),(16,.int .i64 2),(17,.int .i64 p.1)]) (λp=>T++(p.2.2++(p.2.1++[(O,AObj.cells 29 [.int .i64 0,.int .i64 0,.int .i64 0,.int .i64 0,.str [],.nil,.nil,.nil]),(N,AObj.cells 29 [.int .i64 0,.int .i64 0,.int .i64 0,.int .i64 u.kind,.str u.label,.sc (.slice X u.head.length Z),.sc (.slice Y u.words.length cw),.sc (.slice bk u.kids.length ck)])]))) (0,d1,d2) ⟨Nat.zero_le _,e4,e6,e2⟩ (Weak.sub ((SubN.refl _).tail _)) ?_
 rintro⟨j,th,tw⟩ ⟨hj,ag,ah,bo⟩
 simp only at ag ah bo ⊢
 have e8:j=0\/j=1\/j=2:=by omega
 rcases e8 with rfl|rfl|rfl
 ·simp only[Nat.lt_irrefl,if_false,show ¬(1<0)by omega]at ag ah
  (try simp only[EVz,seval,↓reduceIte,EV6,EV7,append_eq])
  have eb:∀(i:Nat) (x:Wd),True:=λ_ _=>trivial
  refine ax (ι:=Store) u.head (λi r c=>fw 88 4 (((u.head.take i).map Wd.bare++u.head.drop i).map Wd.cs) X Z c/\(Store.keys (c++(T++(tw++[(O,AObj.cells 29 [.int .i64 0,.int .i64 0,.int .i64 0,.int .i64 0,.str [],.nil,.nil,.nil]),(N,AObj.cells 29 [.int .i64 0,.int .i64 0,.int .i64 0,.int .i64 u.kind,.str u.label,.sc (.slice X u.head.length Z),.sc (.slice Y u.words.length cw),.sc (.slice bk u.kids.length ck)])])))).Nodup)
   (λi c=>[(1,.sc (.pointer (some ⟨N,0,none⟩))),(2,.sc (.pointer (some ⟨O,0,none⟩))),(15,.own (some d4) 26 1 [[.sc (.slice X u.head.length Z)],[.sc (.slice Y u.words.length cw)]]),(16,.int .i64 2),(17,.int .i64 0),(4,.sc (.slice X u.head.length Z)),(22,.int .i64 u.head.length),(23,.int .i64 i)])
   (λi c=>c++(T++(tw++[(O,AObj.cells 29 [.int .i64 0,.int .i64 0,.int .i64 0,.int .i64 0,.str [],.nil,.nil,.nil]),(N,AObj.cells 29 [.int .i64 0,.int .i64 0,.int .i64 0,.int .i64 u.kind,.str u.label,.sc (.slice X u.head.length Z),.sc (.slice Y u.words.length cw),.sc (.slice bk u.kids.length ck)])]))) th ⟨by simpa using ag,(SubN.perm jz).2 bo⟩ (Weak.sub (SubN.perm jz)) (by omega) (λi x r c M E hw=>?_) (λc M hn=>?_)
  ·obtain⟨hO,hN⟩:=M
   rcases hO with⟨h0,_,_⟩|⟨b,pad,rfl,rfl,J,bn,aw,ac⟩
   ·exfalso
    have:=congrArg List.length h0
    have h9:=E.lt
    simp at this
    omega
   ·have F:=nf E
    have hi:i<(((u.head.take i).map Wd.bare++u.head.drop i).map Wd.cs).length:=by rw[F];exact E.lt
    (try simp only[EVz,seval,↓reduceIte,EV6,EV7,E.yes,E.le0,E.lt',hw,Nat.zero_add,append_eq])
    refine⟨by rw[ac];rw[F]at J;have:=E.lt;omega,?_⟩
    rw[cS (sz:=4) (off:=1) (c:=[.int .i64 0,.int .i64 0,.int .i64 0]) (by decide) aw hi,lP E hi]
    (try simp only[EVz,seval,↓reduceIte,EV6,EV7,hw,append_eq])
    refine am E [(b,.cells 88 ((((u.head.take (i+1)).map Wd.bare++u.head.drop (i+1)).map Wd.cs).flatten++pad))] ⟨.inr ⟨b,pad,rfl,rfl,?_,bn,iC _,?_⟩,by simpa[Store.keys]using hN⟩ (Weak.rfl' _ _)
    ·rw[gz E];rw[F]at J;exact J
    ·rw[←ac,length_append,length_append,ap _ (iC _),ap _ (iC _),gz E,F]
  ·obtain⟨hO,hN⟩:=M
   rw[take_length,drop_length,append_nil]at hO
   (try simp only[EVz,seval,↓reduceIte,EV6,EV7,hn])
   refine⟨(1,c,tw),⟨by omega,by simpa using hO,by simpa using ah,(SubN.perm jz.symm).2 hN⟩,by simp,?_⟩
   exact Weak.sub (SubN.perm jz.symm)
 ·simp only[Nat.lt_irrefl,if_false,show(0<1)by omega,if_true]at ag ah
  (try simp only[EVz,seval,↓reduceIte,EV6,EV7,append_eq])
  have eb:∀(i:Nat) (x:Wd),True:=λ_ _=>trivial
  refine ax (ι:=Store) u.words (λi r c=>fw 88 4 (((u.words.take i).map Wd.bare++u.words.drop i).map Wd.cs) Y cw c/\(Store.keys (c++(T++(th++[(O,AObj.cells 29 [.int .i64 0,.int .i64 0,.int .i64 0,.int .i64 0,.str [],.nil,.nil,.nil]),(N,AObj.cells 29 [.int .i64 0,.int .i64 0,.int .i64 0,.int .i64 u.kind,.str u.label,.sc (.slice X u.head.length Z),.sc (.slice Y u.words.length cw),.sc (.slice bk u.kids.length ck)])])))).Nodup)
   (λi c=>[(1,.sc (.pointer (some ⟨N,0,none⟩))),(2,.sc (.pointer (some ⟨O,0,none⟩))),(15,.own (some d4) 26 1 [[.sc (.slice X u.head.length Z)],[.sc (.slice Y u.words.length cw)]]),(16,.int .i64 2),(17,.int .i64 1),(4,.sc (.slice Y u.words.length cw)),(22,.int .i64 u.words.length),(23,.int .i64 i)])
   (λi c=>c++(T++(th++[(O,AObj.cells 29 [.int .i64 0,.int .i64 0,.int .i64 0,.int .i64 0,.str [],.nil,.nil,.nil]),(N,AObj.cells 29 [.int .i64 0,.int .i64 0,.int .i64 0,.int .i64 u.kind,.str u.label,.sc (.slice X u.head.length Z),.sc (.slice Y u.words.length cw),.sc (.slice bk u.kids.length ck)])]))) tw ⟨by simpa using ah,(SubN.perm iw).2 bo⟩ (Weak.sub (SubN.perm iw)) (by omega) (λi x r c M E hw=>?_) (λc M hn=>?_)
  ·obtain⟨hO,hN⟩:=M
   rcases hO with⟨h0,_,_⟩|⟨b,pad,rfl,rfl,J,bn,aw,ac⟩
   ·exfalso
    have:=congrArg List.length h0
    have h9:=E.lt
    simp at this
    omega
   ·have F:=nf E
    have hi:i<(((u.words.take i).map Wd.bare++u.words.drop i).map Wd.cs).length:=by rw[F];exact E.lt
    (try simp only[EVz,seval,↓reduceIte,EV6,EV7,E.yes,E.le0,E.lt',hw,Nat.zero_add,append_eq])
    refine⟨by rw[ac];rw[F]at J;have:=E.lt;omega,?_⟩
    rw[cS (sz:=4) (off:=1) (c:=[.int .i64 0,.int .i64 0,.int .i64 0]) (by decide) aw hi,lP E hi]
    (try simp only[EVz,seval,↓reduceIte,EV6,EV7,hw,append_eq])
    refine am E [(b,.cells 88 ((((u.words.take (i+1)).map Wd.bare++u.words.drop (i+1)).map Wd.cs).flatten++pad))] ⟨.inr ⟨b,pad,rfl,rfl,?_,bn,iC _,?_⟩,by simpa[Store.keys]using hN⟩ (Weak.rfl' _ _)
    ·rw[gz E];rw[F]at J;exact J
    ·rw[←ac,length_append,length_append,ap _ (iC _),ap _ (iC _),gz E,F]
  ·obtain⟨hO,hN⟩:=M
   rw[take_length,drop_length,append_nil]at hO
   (try simp only[EVz,seval,↓reduceIte,EV6,EV7,hn])
   refine⟨(2,th,c),⟨by omega,by simpa using ag,by simpa using hO,(SubN.perm iw.symm).2 hN⟩,by simp,?_⟩
   exact Weak.sub (SubN.perm iw.symm)
 ·simp only[show(0<2)by omega,show(1<2)by omega,if_true]at ag ah
  have dc:=jC bo
  have bb:N∉tw.keys:=ce dc (by simp[Store.keys])
  have bd:O∉tw.keys:=ce dc (by simp[Store.keys])
  have e0:=jC dc
  have be:N∉th.keys:=ce e0 (by simp[Store.keys])
  have bm:O∉th.keys:=ce e0 (by simp[Store.keys])
  (try simp only[EVz,seval,↓reduceIte,EV6,EV7,ao bb,ao bd,au bb,au bd,ao be,ao bm,au be,au bm,I,V,append_eq,append_assoc,ao al,ao an,au al,au an])
  refine ax (ι:=Store) u.kids (λi r c=>fw 29 8 (((u.kids.take i).map U.strip++u.kids.drop i).map U.cs) bk ck c/\(Store.keys (c++(tw++(th++[(O,AObj.cells 29 [.int .i64 0,.int .i64 0,.int .i64 0,.int .i64 0,.str [],.nil,.nil,.nil]),(N,AObj.cells 29 [.int .i64 0,.int .i64 0,.int .i64 0,.int .i64 u.kind,.str u.label,.sc (.slice X u.head.length Z),.sc (.slice Y u.words.length cw),.sc (.slice bk u.kids.length ck)])])))).Nodup)
   (λi c=>[(1,.sc (.pointer (some ⟨N,0,none⟩))),(2,.sc (.pointer (some ⟨O,0,none⟩))),(35,.int .i64 u.kids.length),(36,.int .i64 i)]) (λi c=>c++(tw++(th++[(O,AObj.cells 29 [.int .i64 0,.int .i64 0,.int .i64 0,.int .i64 0,.str [],.nil,.nil,.nil]),(N,AObj.cells 29 [.int .i64 0,.int .i64 0,.int .i64 0,.int .i64 u.kind,.str u.label,.sc (.slice X u.head.length Z),.sc (.slice Y u.words.length cw),.sc (.slice bk u.kids.length ck)])]))) T ⟨by simpa using e5,bo⟩ (Weak.rfl' _ _) (by omega) (λi x r c M E hw=>?_) (λc M hn=>?_)
  ·obtain⟨hO,hN⟩:=M
   rcases hO with⟨h0,_,_⟩|⟨b,pad,rfl,rfl,J,bn,aw,ac⟩
   ·exfalso
    have:=congrArg List.length h0
    have h9:=E.lt
    simp at this
    omega
   ·have d0:=mix_len (g:=U.strip) (f:=U.cs) E
    have hi:i<(((u.kids.take i).map U.strip++u.kids.drop i).map U.cs).length:=by rw[d0];exact E.lt
    have e7:¬b=N:=by
     intro e
     subst e
     exact ce hN (b:=b) (by simp[Store.keys]) (by simp[Store.keys])
    have e3:=iT (pad:=pad) aw hi
    rw[mn E hi]at e3
    have e9:8<=((List.map U.cs (List.map U.strip (List.take i u.kids)++List.drop i u.kids)).flatten++pad).length-i*8:=by rw[ac];rw[d0]at J;have:=E.lt;omega
    have dd:=cS (sz:=8) (off:=0) (c:=x.strip.cs) (by rw[U.cs_len];omega) (pad:=pad) aw hi
    rw[oH E hi,Nat.add_zero]at dd
    have ea:=ih x E.mem (hs.kid E.mem)
    (repeat' (first|(with_reducible first|refine AI (by omega) ?_|refine aa ea ?_)|simp only[EVz,seval,↓reduceIte,EV6,EV7,E.yes,E.le0,E.lt',hw,e7,I,V,ao bb,ao bd,ao be,ao bm,Nat.zero_add,append_eq,e3,dd,length_drop,U.cs_len]|(with_reducible first|refine ae ?_ ?_|refine af ?_)))
    all_goals
     (try rw[dd])
     refine am E [(b,.cells 29 ((((u.kids.take (i+1)).map U.strip++u.kids.drop (i+1)).map U.cs).flatten++pad))] ⟨.inr ⟨b,pad,rfl,rfl,?_,bn,iA _,?_⟩,by simpa[Store.keys]using hN⟩ (Weak.rfl' _ _)
     ·rw[kt E];rw[d0]at J;exact J
     ·rw[←ac,length_append,length_append,ap _ (iA _),ap _ (iA _),kt E,d0]
  ·obtain⟨hO,hN⟩:=M
   rw[take_length,drop_length,append_nil]at hO
   have dl:N∉c.keys:=ce hN (by simp[Store.keys])
   have ds:O∉c.keys:=ce hN (by simp[Store.keys])
   (try simp only[EVz,seval,↓reduceIte,EV6,EV7,hn,ao bb,ao bd,au bb,au bd,ao be,ao bm,au be,au bm,I,V,append_eq,append_assoc,ao dl,ao ds,au dl,au ds])
   refine RET.mk' (σ':=c++(tw++th)) (SubN.app (SubN.app SubN.appL)) ⟨X,Z,th,Y,cw,tw,bk,ck,c,?_,rfl,?_,?_,?_⟩
   ·rw[U.strip_eq];simp
   ·rw[U.strip_eq];exact ag
   ·rw[U.strip_eq];exact ah
   ·rw[U.strip_eq];exact hO
end
theorem ee {α:Type} {p q:α->Bool}:∀{l:List α},(∀x∈l,p x=q x)->l.all p=l.all q
 |[],_=>rfl
 |x::l,h=>by rw[all_cons,all_cons,h x (by simp),ee λy E=>h y (by simp[E])]
theorem lI (p:U->Bool):∀us:List U,(U.flats us).all p=us.all λk=>k.flat.all p
 |[]=>by rw[bl];rfl
 |u::us=>by rw[aG,all_append,lI p us,all_cons]
theorem iJ (p:U->Bool) (u:U):u.flat.all p=(p u&&u.kids.all λk=>k.flat.all p):=by rw[U.flat_eq,all_cons,lI]
/-! ### trees that stand right -/
theorem jN (k:Int):∀us:List U,U.rights k us=((us.all λx=>bt k x.kind)&&us.all U.right)
 |[]=>by rw[U.rights];rfl
 |u::us=>by
  rw[U.rights,jN k us,all_cons,all_cons]
  cases bt k u.kind<;>cases u.right<;>simp
theorem lC:aX []=true:=by decide
theorem m9 (u:U):aloneOk u=(own1 u&&decide ((u.kids.length:Int)<=64)):=by
 unfold aloneOk own1
 by_cases I:u.kind=0
 ·rw[if_pos I,if_pos I,Bool.eq_iff_iff]
  simp only[Bool.and_eq_true,decide_eq_true_eq]
  constructor
  ·rintro⟨⟨_,_,E,_,_⟩,F⟩;exact⟨F,E⟩
  ·rintro⟨⟨F,X,Y⟩,E⟩
   have T:u.head=[]:=length_eq_zero_iff.1 (by omega)
   have V:u.words=[]:=length_eq_zero_iff.1 (by omega)
   exact⟨⟨by omega,by omega,E,by rw[T];exact lC,by rw[V];exact lC⟩,F,X,Y⟩
 ·rw[if_neg I,if_neg I,Bool.eq_iff_iff]
  simp only[Bool.and_eq_true,decide_eq_true_eq]
  constructor
  ·rintro⟨⟨J,M,E,N,O⟩,F⟩;exact⟨⟨⟨J,M⟩,F,N,O⟩,E⟩
  ·rintro⟨⟨⟨J,M⟩,F,N,O⟩,E⟩;exact⟨⟨J,M,E,N,O⟩,F⟩
theorem oI:∀u:U,u.right=u.flat.all nodeOk:=by
 refine U.ind λu ih=>?_
 rw[U.right_eq,iJ,jN,m9,ee ih,show nodeOk u=(own1 u&&((u.kids.all λk=>bt u.kind k.kind)&&decide (Apart u.kids)&&decide ((u.kids.length:Int)<=64)))from rfl]
 generalize own1 u=a,(u.kids.all λx=>bt u.kind x.kind)=b,decide (Apart u.kids)=c,decide ((u.kids.length:Int)<=64)=d,(u.kids.all λk=>k.flat.all nodeOk)=e
 cases a<;>cases b<;>cases c<;>cases d<;>cases e<;>rfl
theorem j6 (u:U):treeOk u=cv u:=by unfold treeOk cv;rw[oI]
/-! ### bare trees -/
theorem ma {α:Type} {f:α->α}:∀{l:List α},l=l.map f↔∀x∈l,x=f x
 |[]=>by simp
 |x::l=>by simp[ma (f:=f) (l:=l)]
theorem wd_bare (w:Wd):w=w.bare↔dy w=false:=by
 obtain⟨t,a,b,c⟩:=w
 simp[Wd.bare,dy]
theorem lV (l:List Wd):l=l.map Wd.bare↔l.any dy=false:=by
 rw[ma,any_eq_false]
 constructor<;>intro h x E
 ·have:=(wd_bare x).1 (h x E);simp[this]
 ·exact(wd_bare x).2 (by simpa using h x E)
theorem strip_fix:∀u:U,(u=u.strip)↔u.flat.all cY=true:=by
 refine U.ind λu ih=>?_
 rw[iJ,Bool.and_eq_true,all_eq_true,U.strip_eq,show cY u=(decide (u.id=zId)&&(!u.head.any dy&& !u.words.any dy))from rfl]
 simp only[Bool.and_eq_true,decide_eq_true_eq,Bool.not_eq_true']
 rw[←lV,←lV]
 have E:u.kids=u.kids.map U.strip↔∀k∈u.kids,k.flat.all cY=true:=by
  rw[ma]
  exact⟨λh k E=>(ih k E).1 (h k E),λh k E=>(ih k E).2 (h k E)⟩
 rw[←E]
 obtain⟨i,k,l,h,w,ks⟩:=u
 simp only[U.mk.injEq,true_and,zId]
 constructor
 ·rintro⟨a,b,c,d⟩;exact⟨⟨a,b,c⟩,d⟩
 ·rintro⟨⟨a,b,c⟩,d⟩;exact⟨a,b,c,d⟩
theorem gK (u:U):bareOk u=gA u:=by
 unfold bareOk gA
 rw[j6]
 congr 1
 rw[Bool.eq_iff_iff,decide_eq_true_eq,strip_fix]
/-! ### shapes -/
theorem lp (u:U):alone11 u=own1 u:=by
 unfold alone11 own1
 by_cases E:u.kind=0
 ·rw[if_pos E,if_pos E]
 ·rw[if_neg E,if_neg E]
  have:decide (0<u.kind)=decide (0<=u.kind):=by rw[decide_eq_decide];omega
  rw[this,Bool.and_assoc]
theorem kU (d k:Int):∀us:List U,U.shapes d k us=((us.all λx=>bt k x.kind)&&us.all λx=>x.shape d)
 |[]=>by rw[U.shapes];rfl
 |u::us=>by
  rw[U.shapes,kU d k us,all_cons,all_cons]
  cases bt k u.kind<;>cases u.shape d<;>simp
theorem nests_ne0 {p k:Int} (h:bt p k=true):k≠0:=by
 unfold bt at h
 (repeat' split at h)<;>simp at h<;>omega
theorem deps_le (us:List U) (d:Int):d+U.deps us<=8↔d<=8/\∀k∈us,d+1+k.dep<=8:=by
 induction us with
 |nil=>simp[U.deps_nil]
 |cons u us ih=>
  rw[U.deps_cons]
  constructor
  ·intro h
   have E:=ih.1 (by omega)
   refine⟨E.1,λk F=>?_⟩
   rcases mem_cons.1 F with rfl|F
   ·omega
   ·exact E.2 k F
  ·rintro⟨I,E⟩
   have J:=E u (by simp)
   have M:=ih.2 ⟨I,λk F=>E k (by simp[F])⟩
   omega
theorem kg:∀(u:U) (d:Int),0<=d->u.shape d=(u.flat.all nodeOk&&(decide (d+u.dep<=8)&& !(decide (0<d)&&decide (u.kind=0)))):=by
 refine U.ind λu ih d Y=>?_
 rw[U.shape_eq,iJ,kU,lp,ee λk E=>ih k E (d+1) (by omega),U.dep_eq]
 rw[Bool.eq_iff_iff,show nodeOk u=(own1 u&&((u.kids.all λk=>bt u.kind k.kind)&&decide (Apart u.kids)&&decide ((u.kids.length:Int)<=64)))from rfl]
 simp only[Bool.and_eq_true,decide_eq_true_eq,all_eq_true,Bool.not_eq_true',Bool.and_eq_false_iff,decide_eq_false_iff_not,deps_le]
 constructor
 ·rintro⟨⟨⟨I,J⟩,M,N⟩,⟨F,T⟩,O⟩
  exact⟨⟨⟨M,⟨F,O⟩,N⟩,λk E=>(T k E).1⟩,⟨I,λk E=>(T k E).2.1⟩,J⟩
 ·rintro⟨⟨⟨M,⟨F,O⟩,N⟩,V⟩,⟨I,X⟩,J⟩
  exact⟨⟨⟨I,J⟩,M,N⟩,⟨F,λk E=>⟨V k E,X k E,.inr (nests_ne0 (F k E))⟩⟩,O⟩
/-! ### stripped trees -/
theorem fG:∀us:List U,(∀k∈us,k.strip.flat=k.flat.map U.strip)->U.flats (us.map U.strip)=(U.flats us).map U.strip
 |[],_=>by rw[map_nil,bl];rfl
 |u::us,h=>by rw[map_cons,aG,aG,map_append,h u (by simp),fG us λk E=>h k (by simp[E])]
theorem ed:∀u:U,u.strip.flat=u.flat.map U.strip:=by
 refine U.ind λu ih=>?_
 rw[U.flat_eq,U.flat_eq,map_cons]
 congr 1
 rw[U.strip_eq]
 exact fG _ ih
theorem gW (u:U):u.strip.kind=u.kind:=by rw[U.strip_eq]
theorem nI (u:U):u.strip.label=u.label:=by rw[U.strip_eq]
theorem od (l:List Wd):aX (l.map Wd.bare)=aX l:=by
 unfold aX
 rw[length_map,all_map]
 rfl
theorem own_strip (u:U):own1 u.strip=own1 u:=by
 rw[U.strip_eq]
 unfold own1
 simp only[length_map,od]
theorem ni (l:List U):Apart (l.map U.strip)=Apart l:=by
 unfold Apart
 rw[map_map]
 congr 1
 refine map_congr_left λk _=>?_
 simp only[Function.comp,gW,nI]
theorem lZ (u:U):nodeOk u.strip=nodeOk u:=by
 have h:u.strip.kids=u.kids.map U.strip:=by rw[U.strip_eq]
 unfold nodeOk
 rw[own_strip,h,all_map,length_map,gW]
 simp only[ni]
 congr 3
 exact ee λk _=>by simp only[Function.comp,gW]
theorem j8:∀us:List U,(∀k∈us,k.strip.dep=k.dep)->U.deps (us.map U.strip)=U.deps us
 |[],_=>rfl
 |u::us,h=>by rw[map_cons,U.deps_cons,U.deps_cons,h u (by simp),j8 us λk E=>h k (by simp[E])]
theorem dep_strip:∀u:U,u.strip.dep=u.dep:=by
 refine U.ind λu ih=>?_
 rw[U.dep_eq,U.dep_eq,show u.strip.kids=u.kids.map U.strip by rw[U.strip_eq]]
 exact j8 _ ih
theorem cnt_strip (u:U):u.strip.cnt=u.cnt:=by unfold U.cnt;rw[ed,length_map]
theorem ids_strip (u:U):idsOk u.strip=true:=by
 unfold idsOk U.ids
 rw[ed]
 simp only[Bool.or_eq_true,all_eq_true,map_map]
 left
 intro x E
 obtain⟨y,_,rfl⟩:=mem_map.1 E
 simp[Function.comp,U.strip_eq,zId]
theorem kw (u:U):cv u.strip=shapeOk u:=by
 unfold cv shapeOk
 rw[kg u 0 (by omega),ed,all_map,dep_strip,cnt_strip,ids_strip,ee (p:=nodeOk ∘ U.strip) (q:=nodeOk) λx _=>lZ x]
 simp[Bool.and_assoc]
def U.lone (u:U):U:=⟨zId,u.kind,u.label,u.head,u.words,[]⟩
theorem tree_lone (u:U):cv u.lone.strip=alone11 u:=by
 rw[kw,lp]
 unfold shapeOk
 rw[kg _ 0 (by omega),iJ]
 have E:u.lone.dep=0:=by rw[U.dep_eq];rfl
 have F:u.lone.cnt=1:=by rw[U.cnt_eq];rfl
 rw[E,F]
 unfold nodeOk
 have:own1 u.lone=own1 u:=rfl
 rw[this]
 simp[U.lone,Apart]
theorem U.lone_short {u:U} (F:u.Short):u.lone.Short:=by
 have J:=F.2 u u.flat_self
 have E:=(U.fit_eq u).1 F.1.1
 have e:u.lone.flat=[u.lone]:=by rw[U.flat_eq];show _::U.flats []=_;rw[bl]
 refine⟨⟨(U.fit_eq _).2 ⟨E.1,E.2.1,E.2.2.1,by simp[U.lone],by simp[U.lone]⟩,by rw[e];simp⟩,?_⟩
 intro x I
 rw[e,mem_singleton]at I
 subst I
 exact J
theorem fit_strip:∀u:U,u.fit->u.strip.fit:=by
 refine U.ind λu ih M=>?_
 obtain⟨a,⟨b,J⟩,⟨c,c2⟩,d,e⟩:=(U.fit_eq u).1 M
 rw[U.strip_eq]
 refine(U.fit_eq _).2 ⟨a,⟨by simpa using b,?_⟩,⟨by simpa using c,?_⟩,by simpa using d,?_⟩
 ·intro x E
  obtain⟨w,F,rfl⟩:=mem_map.1 E
  exact J w F
 ·intro x E
  obtain⟨w,F,rfl⟩:=mem_map.1 E
  exact c2 w F
 ·intro x E
  obtain⟨k,I,rfl⟩:=mem_map.1 E
  exact ih k I (e k I)
theorem jk {u:U} (F:u.Short):u.strip.Short:=by
 refine⟨⟨fit_strip u F.1.1,by rw[ed,length_map];exact F.1.2⟩,?_⟩
 intro x J
 rw[ed]at J
 obtain⟨y,X,rfl⟩:=mem_map.1 J
 obtain⟨M,N,O,T,V⟩:=F.2 y X
 rw[U.strip_eq]
 refine⟨M,by simpa using N,by simpa using O,?_,?_⟩
 ·intro w I
  obtain⟨w',E,rfl⟩:=mem_map.1 I
  exact T w' E
 ·intro w I
  obtain⟨w',E,rfl⟩:=mem_map.1 I
  exact V w' E
theorem U.Short.node {u x:U} (I:u.Short) (E:x∈u.flat):x.Short:=by
 induction u using U.ind with
 |h u ih=>
  rw[U.flat_eq]at E
  rcases mem_cons.1 E with rfl|E
  ·exact I
  ·obtain⟨k,F,E⟩:=ig E
   exact ih k F (I.kid F) E
theorem repeat2 (n:Nat):Lib.repeatL [32,32] n=List.replicate (2*n) 32:=by
 induction n with
 |zero=>rfl
 |succ n ih=>rw[Lib.repeatL,ih,Nat.mul_add];simp[replicate_succ]
theorem k7 {τ:Store} {w:World} {b:Nat}:∀(xs:List (List UInt8)) (i:Nat),az τ w ⟨b,0,none⟩ 1 i (xs.map srow)->∀(j:Nat) x,xs[j]? =some x->w.cell? ⟨b,i+j,none⟩=some (.string ⟨⟨x⟩⟩)
 |[],i,_,j,x,hx=>by simp at hx
 |y::xs,i,h,j,x,hx=>by
  simp only[srow,map_cons,az,RepAt,Rep]at h
  obtain⟨_,⟨⟨u,E,_,rfl⟩,_⟩,F⟩:=h
  cases j with
  |zero=>
   simp at hx
   subst hx
   have e:(⟨b,0,none⟩:Addr).add (i*1)=⟨b,i,none⟩:=by unfold Addr.add;by_cases hi:i=0<;>simp[hi]
   have:=E.1
   rw[e]at this
   exact this
  |succ j=>
   have:=k7 xs (i+1) F j x (by simpa using hx)
   rw[show i+(j+1)=i+1+j by omega]
   exact this
section
variable (G:Glob)
theorem f346 (n:Nat) (O:n<=8):Pure G Tryz.prog 346 [.str [32,32],.int .i64 n] (.str (List.replicate (2*n) 32)):=by
 refine Pure.of_calls Tryz.func346 (by kernel_rfl) (by kernel_rfl) λτ w vs N J=>?_
 obtain⟨u,v,rfl,F,I⟩:=g8 J
 simp only[Rep]at F I
 subst F I
 refine⟨.string ⟨⟨List.replicate (2*n) 32⟩⟩,λ_ _=>by simp only[Rep],?_⟩
 have E:(⟨⟨[32,32]⟩⟩:ByteArray).size=2:=rfl
 refine(Tryz.strings_Repeat ⟨⟨[32,32]⟩⟩ n w (by omega) (by rw[E];omega)).mono ?_
 rintro e w' ⟨rfl,M⟩
 exact⟨by rw[←repeat2],M⟩
theorem f255 (g:Option Nat) (xs:List (List UInt8)) (E:List UInt8) (hn:xs.length<=1000000) (hl:(Lib.join xs E).length<=140737488355328):Pure G Tryz.prog 255 [.own g 9 1 (xs.map srow),.str E] (.str (Lib.join xs E)):=by
 refine Pure.of_calls Tryz.func255 (by kernel_rfl) (by kernel_rfl) λτ w vs hS Y=>?_
 obtain⟨u,v,rfl,J,T⟩:=g8 Y
 simp only[Rep]at T
 subst T
 refine⟨.string ⟨⟨Lib.join xs E⟩⟩,λ_ _=>by simp only[Rep],?_⟩
 have F:∀a c,xs=[]->Calls Tryz.prog 255 #[.slice a 0 c,.string ⟨⟨E⟩⟩] w λe w'=>e= .returned (.string ⟨⟨Lib.join xs E⟩⟩)/\Below w.heap.size w w':=by
  rintro a c rfl
  refine(Tryz.strings_Join_none a c ⟨⟨E⟩⟩ w).mono ?_
  rintro e w' ⟨rfl,rfl⟩
  exact⟨rfl,Below.refl _ _⟩
 cases g with
 |none=>
  simp only[Rep]at J
  obtain⟨rfl,N⟩:=J
  exact F _ _ (by simpa using N)
 |some b=>
  simp only[Rep]at J
  obtain⟨cap,rfl,V,hm,M,hr⟩:=J
  rw[length_map]at V ⊢
  by_cases N:xs=[]
  ·subst N
   exact F _ _ rfl
  ·have O:(xs.map (λx=>(⟨⟨x⟩⟩:ByteArray))).map (·.data.toList)=xs:=by rw[map_map];exact map_id xs
   have Z:b<w.heap.size:=by
    rcases Nat.lt_or_ge b w.heap.size with h|h
    ·exact h
    ·have:w.heap[b]? =none:=Array.getElem?_eq_none h
     simp[World.shape?,this]at M
   have I:∀(j:Nat) x,(xs.map (λx=>(⟨⟨x⟩⟩:ByteArray)))[j]? =some x->w.cell? ⟨b,0+j,none⟩=some (.string x):=by
    intro j x X
    simp only[getElem?_map,Option.map_eq_some_iff]at X
    obtain⟨y,hy,rfl⟩:=X
    exact k7 xs 0 hr j y hy
   have h:=Tryz.strings_Join b 0 cap (xs.map (λx=>(⟨⟨x⟩⟩:ByteArray))) ⟨⟨E⟩⟩ w I Z (by simp;omega) (by simpa using V) (by rw[O];exact hl)
   rw[O,length_map]at h
   exact h
theorem f347 (s:List UInt8) (l:List Wd) (hs:s.length<=1000000) (M:aX l=true):Pure G Tryz.prog 347 [.str s,.lst 4 (l.map Wd.cs)] (.str (s++wordsT l)):=by
 have hl:=row_len M
 refine Pure.w c347 λR T=>?_
 unfold s347 r347
 (repeat' (first|(with_reducible (first|refine ab (λh=>?_) (λh=>?_)|refine ai (λh=>?_) (λh=>?_))<;>(try simp only[DZ]at h))|(with_reducible refine AI (by omega) ?_)|simp only[EVz,seval,↓reduceIte,EV6,EV7,length_append,length_cons,length_nil,F.yes,F.le0,F.lt',F.get,F.row,hw]|simp only[EVz,seval,↓reduceIte,EV6,EV7,length_append,length_cons,length_nil,X]|simp only[EVz,seval,↓reduceIte,EV6,EV7,length_append,length_cons,length_nil]|(with_reducible intro N I;(try(have J:=I;simp only[EVK]at J;(have Y:=J))))|(refine ax (ι:=List UInt8) (l) (λi r c=>s++wordsT l=c++wordsT r/\c.length<=s.length+i*26) (λi c=>[(0,.str c),(7,.lst 4 (l.map Wd.cs)),(8,.int .i64 l.length),(9,.int .i64 i)]) (λ_ _=>[]) (s) (by((simp;done))) (Weak.rfl' _ _) (by omega) (λi x r c E F hw=>?_) (λc E X=>?_)<;>(try(obtain⟨hp,Z⟩:=row_word M F.mem;have V:=F.lt)))|(refine am F _ ?_ (Weak.sub (SubN.nil _)))))
 ·rw[E.1]
  have e:escT x.text=92::x.text:=by unfold escT;rw[if_pos];right;exact UInt8.toNat_inj.1 (by show _=92;omega)
  exact⟨by simp[wordsT,e],by omega⟩
 ·rename_i O
  rw[E.1]
  have e:escT x.text=x.text:=by
   unfold escT
   rw[if_neg]
   rintro(h3|h3)
   ·exact O (by rw[h3];rfl)
   ·exact h (by rw[h3];rfl)
  exact⟨by simp[wordsT,e],by omega⟩
 ·rw[E.1]
  have e:escT x.text=92::x.text:=by unfold escT;rw[if_pos];left;exact UInt8.toNat_inj.1 (by show _=124;omega)
  exact⟨by simp[wordsT,e],by omega⟩
 ·exact RET.eq T (by rw[E.1];simp[wordsT])
end
theorem lone_cs (u:U):u.lone.cs=[.int .i64 0,.int .i64 0,.int .i64 0,.int .i64 u.kind,.str u.label,.lst 4 (u.head.map Wd.cs),.lst 4 (u.words.map Wd.cs),.lst 8 []]:=by rw[U.cs_eq];rfl
section
variable (G:Glob) (hG:GOk G)
include hG
theorem f345 (u:U) (d:Int) (M:u.Short):Pure G Tryz.prog 345 [.agg u.cs,.int .i64 d] (.bool ((decide (0<=d)&&decide (d<=8))&&alone11 u)):=by
 have I:=f142 G u.lone (U.lone_short M)
 have J:=f9 G hG u.lone.strip (jk (U.lone_short M))
 rw[tree_lone]at J
 rw[lone_cs]at I
 rw[U.cs_eq u]
 refine Pure.w c345 λR O=>?_
 unfold s345 r345
 (repeat' (first|(with_reducible (refine ai (λh=>?_) (λh=>?_))<;>(try simp only[DZ]at h))|(with_reducible refine aa J ?_)|simp only[EVz,seval,↓reduceIte,EV6,EV7]|(with_reducible intro N E;(try(have F:=E;simp only[EVK]at F;(have T:=F))))|(refine aI I ⟨.inr ⟨.inl rfl,.inl rfl,.inl rfl,.inl rfl,.inl rfl,.inl rfl,.inl rfl,.inr rfl,trivial⟩,trivial⟩ ?_)))
 all_goals(refine RET.eq O (congrArg AV.bool ?_);first|(simp[*];done)|(rw[decide_eq_false (p:=0<=d) (by omega)];rfl)|(rw[decide_eq_false (p:=d<=8) (by omega),Bool.and_false];rfl))
theorem f299 (u:U) (n:Nat) (I:u.Short) (hn:n<=1000000):Pure G Tryz.prog 299 [.agg u.cs,.int .i64 n] (.str (lineOf u n)):=by
 have M:=f345 G hG u n I
 have F:=f74 G hG u.kind
 refine Pure.w c299 λR J=>?_
 unfold s299 r299
 by_cases E:alone11 u=true/\n<=8
 ·obtain⟨Z,a7,X,Y,al⟩:=alone_facts E.1
  have b1:=wordsT_row X
  have b2:=wordsT_row Y
  have b3:=kindText_len u.kind
  have V:=f346 G n E.2
  rw[E.1,Bool.and_true,show(decide ((0:Int)<=n)&&decide ((n:Int)<=8))=true by simp;omega]at M
  rw[if_pos ⟨Z,a7⟩]at F
  have N:lineOf u n=lineT u n:=by unfold lineOf;rw[if_pos ⟨E.2,E.1⟩]
  rw[N]at J
  have O:=λs I=>f347 G s u.head I X
  have T:=λs I=>f347 G s u.words I Y
  (repeat' (first|(with_reducible (refine ab (λh=>?_) (λh=>?_))<;>(try simp only[DZ]at h))|(with_reducible first|refine AI (by omega) ?_|refine aa M ?_|refine aa F ?_|refine aa V ?_|refine aa (O _ (by simp;omega)) ?_|refine aa (T _ (by simp;omega)) ?_)|simp only[EVz,seval,↓reduceIte,EV6,EV7,length_append,length_cons,length_nil,length_replicate]))
  all_goals(refine RET.eq J (congrArg AV.str ?_);unfold lineT;(repeat first|rw[if_pos (by omega)]|rw[if_neg (by omega)]);simp;done)
 ·have e:((decide ((0:Int)<=n)&&decide ((n:Int)<=8))&&alone11 u)=false:=by
   rw[Bool.eq_false_iff]
   intro h
   simp at h
   exact E ⟨h.2,by omega⟩
  rw[e]at M
  have N:lineOf u n=[]:=by unfold lineOf;rw[if_neg (λh=>E ⟨h.2,h.1⟩)]
  rw[N]at J
  (repeat' (first|(with_reducible refine aa M ?_)|simp only[EVz,seval,↓reduceIte,EV6,EV7]))
  (all_goals((exact RET.eq J rfl)))
end
end Go.Av

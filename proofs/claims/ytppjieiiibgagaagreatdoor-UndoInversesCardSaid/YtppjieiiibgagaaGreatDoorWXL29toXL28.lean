/-
  LINT, 29: trees stripped by the program.
-/
import Derived.Test.YtppjieiiibgagaaGreatDoorWXE11toXL27
import Derived.Test.YtppjieiiibgagaaGreatDoorWXE8toXE10
import Derived.Test.YtppjieiiibgagaaGreatDoorWXL18toXL21
import Derived.Lib.Join
set_option linter.all false
namespace Go.Av
open Go Go.RowKit Go.Proofs List
def mix_len {α:Type} {g:α->α} {f:α->List AV} {l:List α} {i:Nat} {x:α} {r:List α} (D:Rest l i x r):(((l.take i).map g++l.drop i).map f).length=l.length:=by
 simp;have:=D.lt;omega
def lX {α:Type} {g:α->α} {f:α->List AV} {l:List α} {i:Nat} {x:α} {r:List α} (D:Rest l i x r):(((l.take (i+1)).map g++l.drop (i+1)).map f).length=l.length:=by
 simp;have:=D.lt;omega
def nL {α:Type} {g:α->α} {f:α->List AV} {l:List α} {i:Nat} {x:α} {r:List α} (D:Rest l i x r) (hi:i<(((l.take i).map g++l.drop i).map f).length):(((l.take i).map g++l.drop i).map f)[i]=f x:=by
 have E:=D.lt;have F:=D.get x;rw[getElem_map,getElem_append_right (by simp;omega)];simp only[length_map,length_take,getElem_drop];congr 1
 have e:i+(i-min i l.length)=i:=by omega
 simp only[e];simpa[E]using F
def mix_set {α:Type} {g:α->α} {f:α->List AV} {l:List α} {i:Nat} {x:α} {r:List α} (D:Rest l i x r):(((l.take i).map g++l.drop i).map f).set i (f (g x))=((l.take (i+1)).map g++l.drop (i+1)).map f:=by
 have E:=D.lt;rw[map_append,set_append_right _ _ (by simp;omega)]
 have e:i-(List.map f (List.map g (List.take i l))).length=0:=by simp;omega
 rw[e,D.take,map_append,map_append,map_append]
 have F:l.drop i=x::l.drop (i+1):=by
  rw[drop_eq_getElem_cons E];congr 1;simpa[E]using D.get x
 rw[F];simp
def pL {l:List Wd} {i:Nat} {x:Wd} {r:List Wd} (D:Rest l i x r):(((l.take i).map Wd.bare++l.drop i).map Wd.cs).length=l.length:=mix_len D
def gY {l:List Wd} {i:Nat} {x:Wd} {r:List Wd} (D:Rest l i x r):(((l.take (i+1)).map Wd.bare++l.drop (i+1)).map Wd.cs).length=l.length:=lX D
def nj {l:List Wd} {i:Nat} {x:Wd} {r:List Wd} (D:Rest l i x r) (hi:i<(((l.take i).map Wd.bare++l.drop i).map Wd.cs).length):
  (((l.take i).map Wd.bare++l.drop i).map Wd.cs).set i (aM (((l.take i).map Wd.bare++l.drop i).map Wd.cs)[i] 1 [.i 0,.i 0,.i 0])=(((l.take (i+1)).map Wd.bare++l.drop (i+1)).map Wd.cs):=by
 rw[nL D hi,←mix_set D]
 rfl
def qS {l:List U} {i:Nat} {x:U} {r:List U} (D:Rest l i x r) (hi:i<(((l.take i).map U.strip++l.drop i).map U.cs).length):
  (((l.take i).map U.strip++l.drop i).map U.cs).set i (aM (((l.take i).map U.strip++l.drop i).map U.cs)[i] 0 x.strip.cs)=(((l.take (i+1)).map U.strip++l.drop (i+1)).map U.cs):=by
 rw[nL D hi,←mix_set D]
 congr 1
 rw[bp _ _ _ (by rw[hJ,hJ];omega),hJ,drop_of_length_le (by rw[hJ];omega)]
 simp
def kV {a b c d:Store}:List.Perm (c++(a++(b++d))) (a++(b++(c++d))):=by
 have D:List.Perm (c++(a++(b++d))) ((a++b)++(c++d)):=by
  rw[←append_assoc a b d];exact perm_append_comm_assoc c (a++b) d
 rwa [append_assoc]at D
def jt {a b c:Store}:List.Perm (b++(a++c)) (a++(b++c)):=perm_append_comm_assoc b a c
section
variable (G:Glob)
set_option maxHeartbeats 4000000 in
def f385:∀(u:U),u.Short->Pure G Tryz.prog 385 [.agg u.cs] (.agg u.strip.cs):=by
 refine U.ind λu ih hs=>lc.freeze ?_;have h0:=hs.2 u u.flat_self;have fl:=hs.1.kids;have ex:=h0.2.1;have ft:=h0.2.2.1;have hC:=f63 G u hs;rw[b0 u]at hC ⊢;refine aj.w c385 ?_;unfold s385 r385;(try simp only[EV,seval]);intro M ew N e3
 have F:¬M=N:=by simp only[EVK]at e3;exact λe=>e3 e.symm
 have T:¬N=M:=λe=>F e.symm;(try simp only[EV,seval,F,T]);refine aC [] _ hC.v (hH _) (SubN.refl _) ?_;rintro _ _ ⟨V,Y,d2,X,Z,d3,bk,ck,O,rfl,rfl,e6,e8,e7⟩ ac;simp only[append_eq,append_assoc]at ac;have al:M∉O.keys:=cF ac (by simp[Store.keys]);have an:N∉O.keys:=cF ac (by simp[Store.keys]);have bs:=kP ac;have cp:M∉d3.keys:=cF bs (by simp[Store.keys]);have d0:N∉d3.keys:=cF bs (by simp[Store.keys]);have dc:=kP bs;have bx:M∉d2.keys:=cF dc (by simp[Store.keys]);have cm:N∉d2.keys:=cF dc (by simp[Store.keys]);(try simp only[EV,seval,ao al,ao an,ar al,ar an,ao cp,ao d0,ar cp,ar d0,ao bx,ao cm,ar bx,ar cm,F,T,append_eq,append_assoc]);intro dd el;refine⟨[[.sc (.slice V u.head.length Y)],[.sc (.slice X u.words.length Z)]],rfl,by simp,rfl,?_⟩;(try simp only[EV,seval,ao al,ao an,ar al,ar an,ao cp,ao d0,ar cp,ar d0,ao bx,ao cm,ar bx,ar cm,F,T,append_eq,append_assoc])
 have e4:(Store.keys (O++(d3++(d2++[(N,AObj.cells 27 [.i 0,.i 0,.i 0,.i 0,.str [],.nil,.nil,.nil]),(M,AObj.cells 27 [.i 0,.i 0,.i 0,.i u.kind,.str u.label,.sc (.slice V u.head.length Y),.sc (.slice X u.words.length Z),.sc (.slice bk u.kids.length ck)])])))).Nodup:=by simpa[Store.keys]using ac
 refine i8 (ι:=Nat×Store×Store) (λp=>p.1<=2/\gC 118 4 ((if 0<p.1 then u.head.map Wd.bare else u.head).map Wd.cs) V Y p.2.1/\gC 118 4 ((if 1<p.1 then u.words.map Wd.bare else u.words).map Wd.cs) X Z p.2.2/\(Store.keys (O++(p.2.2++(p.2.1++[(N,AObj.cells 27 [.i 0,.i 0,.i 0,.i 0,.str [],.nil,.nil,.nil]),(M,AObj.cells 27 [.i 0,.i 0,.i 0,.i u.kind,.str u.label,.sc (.slice V u.head.length Y),.sc (.slice X u.words.length Z),.sc (.slice bk u.kids.length ck)])])))).Nodup)
  (λp=>2-p.1) (λp=>[(1,.p M),(2,.p N),(15,.own (some dd) 24 1 [[.sc (.slice V u.head.length Y)],[.sc (.slice X u.words.length Z)]]),(16,.i 2),(17,.i p.1)]) (λp=>O++(p.2.2++(p.2.1++[(N,AObj.cells 27 [.i 0,.i 0,.i 0,.i 0,.str [],.nil,.nil,.nil]),(M,AObj.cells 27 [.i 0,.i 0,.i 0,.i u.kind,.str u.label,.sc (.slice V u.head.length Y),.sc (.slice X u.words.length Z),.sc (.slice bk u.kids.length ck)])]))) (0,d2,d3) ⟨Nat.zero_le _,e6,e8,e4⟩ (Weak.sub ((SubN.refl _).tail _)) ?_
 rintro⟨j,th,tw⟩ ⟨hj,ad,ah,bo⟩;simp only at ad ah bo ⊢
 have ea:j=0\/j=1\/j=2:=by omega
 rcases ea with rfl|rfl|rfl
 ·simp only[Nat.lt_irrefl,if_false,show ¬(1<0)by omega]at ad ah;(try simp only[EV,seval,append_eq]);have eg:∀(i:Nat) (x:Wd),True:=λ_ _=>trivial;refine ap (ι:=Store) u.head (λi r c=>gC 118 4 (((u.head.take i).map Wd.bare++u.head.drop i).map Wd.cs) V Y c/\(Store.keys (c++(O++(tw++[(N,AObj.cells 27 [.i 0,.i 0,.i 0,.i 0,.str [],.nil,.nil,.nil]),(M,AObj.cells 27 [.i 0,.i 0,.i 0,.i u.kind,.str u.label,.sc (.slice V u.head.length Y),.sc (.slice X u.words.length Z),.sc (.slice bk u.kids.length ck)])])))).Nodup)
   (λi c=>[(1,.p M),(2,.p N),(15,.own (some dd) 24 1 [[.sc (.slice V u.head.length Y)],[.sc (.slice X u.words.length Z)]]),(16,.i 2),(17,.i 0),(4,.sc (.slice V u.head.length Y)),(22,.i u.head.length),(23,.i i)])
   (λi c=>c++(O++(tw++[(N,AObj.cells 27 [.i 0,.i 0,.i 0,.i 0,.str [],.nil,.nil,.nil]),(M,AObj.cells 27 [.i 0,.i 0,.i 0,.i u.kind,.str u.label,.sc (.slice V u.head.length Y),.sc (.slice X u.words.length Z),.sc (.slice bk u.kids.length ck)])]))) th ⟨by simpa using ad,(nm kV).2 bo⟩ (Weak.sub (nm kV)) (by omega) (λi x r c J D hw=>?_) (λc J hn=>?_)
  ·obtain⟨hO,hN⟩:=J
   rcases hO with⟨h0,_,_⟩|⟨b,pad,rfl,rfl,I,bn,aw,aa⟩
   ·exfalso;have:=congrArg List.length h0;have h9:=D.lt;simp at this;omega
   ·have E:=pL D
    have hi:i<(((u.head.take i).map Wd.bare++u.head.drop i).map Wd.cs).length:=by rw[E];exact D.lt
    (try simp only[EV,seval,D.yes,D.le0,D.lt',hw,Nat.zero_add,append_eq]);refine⟨by rw[aa];rw[E]at I;have:=D.lt;omega,?_⟩;rw[ep (sz:=4) (off:=1) (c:=[.i 0,.i 0,.i 0]) (by decide) aw hi,nj D hi];(try simp only[EV,seval,hw,append_eq]);refine ak D [(b,.cells 118 ((((u.head.take (i+1)).map Wd.bare++u.head.drop (i+1)).map Wd.cs).flatten++pad))] ⟨.inr ⟨b,pad,rfl,rfl,?_,bn,jn _,?_⟩,by simpa[Store.keys]using hN⟩ (a0 _ _)
    ·rw[gY D];rw[E]at I;exact I
    ·rw[←aa,length_append,length_append,aA _ (jn _),aA _ (jn _),gY D,E]
  ·obtain⟨hO,hN⟩:=J;rw[take_length,drop_length,append_nil]at hO;(try simp only[EV,seval,hn]);refine⟨(1,c,tw),⟨by omega,by simpa using hO,by simpa using ah,(nm kV.symm).2 hN⟩,by simp,?_⟩;exact Weak.sub (nm kV.symm)
 ·simp only[Nat.lt_irrefl,if_false,show(0<1)by omega,if_true]at ad ah;(try simp only[EV,seval,append_eq]);have eg:∀(i:Nat) (x:Wd),True:=λ_ _=>trivial;refine ap (ι:=Store) u.words (λi r c=>gC 118 4 (((u.words.take i).map Wd.bare++u.words.drop i).map Wd.cs) X Z c/\(Store.keys (c++(O++(th++[(N,AObj.cells 27 [.i 0,.i 0,.i 0,.i 0,.str [],.nil,.nil,.nil]),(M,AObj.cells 27 [.i 0,.i 0,.i 0,.i u.kind,.str u.label,.sc (.slice V u.head.length Y),.sc (.slice X u.words.length Z),.sc (.slice bk u.kids.length ck)])])))).Nodup)
   (λi c=>[(1,.p M),(2,.p N),(15,.own (some dd) 24 1 [[.sc (.slice V u.head.length Y)],[.sc (.slice X u.words.length Z)]]),(16,.i 2),(17,.i 1),(4,.sc (.slice X u.words.length Z)),(22,.i u.words.length),(23,.i i)])
   (λi c=>c++(O++(th++[(N,AObj.cells 27 [.i 0,.i 0,.i 0,.i 0,.str [],.nil,.nil,.nil]),(M,AObj.cells 27 [.i 0,.i 0,.i 0,.i u.kind,.str u.label,.sc (.slice V u.head.length Y),.sc (.slice X u.words.length Z),.sc (.slice bk u.kids.length ck)])]))) tw ⟨by simpa using ah,(nm jt).2 bo⟩ (Weak.sub (nm jt)) (by omega) (λi x r c J D hw=>?_) (λc J hn=>?_)
  ·obtain⟨hO,hN⟩:=J
   rcases hO with⟨h0,_,_⟩|⟨b,pad,rfl,rfl,I,bn,aw,aa⟩
   ·exfalso;have:=congrArg List.length h0;have h9:=D.lt;simp at this;omega
   ·have E:=pL D
    have hi:i<(((u.words.take i).map Wd.bare++u.words.drop i).map Wd.cs).length:=by rw[E];exact D.lt
    (try simp only[EV,seval,D.yes,D.le0,D.lt',hw,Nat.zero_add,append_eq]);refine⟨by rw[aa];rw[E]at I;have:=D.lt;omega,?_⟩;rw[ep (sz:=4) (off:=1) (c:=[.i 0,.i 0,.i 0]) (by decide) aw hi,nj D hi];(try simp only[EV,seval,hw,append_eq]);refine ak D [(b,.cells 118 ((((u.words.take (i+1)).map Wd.bare++u.words.drop (i+1)).map Wd.cs).flatten++pad))] ⟨.inr ⟨b,pad,rfl,rfl,?_,bn,jn _,?_⟩,by simpa[Store.keys]using hN⟩ (a0 _ _)
    ·rw[gY D];rw[E]at I;exact I
    ·rw[←aa,length_append,length_append,aA _ (jn _),aA _ (jn _),gY D,E]
  ·obtain⟨hO,hN⟩:=J;rw[take_length,drop_length,append_nil]at hO;(try simp only[EV,seval,hn]);refine⟨(2,th,c),⟨by omega,by simpa using ad,by simpa using hO,(nm jt.symm).2 hN⟩,by simp,?_⟩;exact Weak.sub (nm jt.symm)
 ·simp only[show(0<2)by omega,show(1<2)by omega,if_true]at ad ah;have dl:=kP bo;have bb:M∉tw.keys:=cF dl (by simp[Store.keys]);have bd:N∉tw.keys:=cF dl (by simp[Store.keys]);have e2:=kP dl;have be:M∉th.keys:=cF e2 (by simp[Store.keys]);have bm:N∉th.keys:=cF e2 (by simp[Store.keys]);(try simp only[EV,seval,ao bb,ao bd,ar bb,ar bd,ao be,ao bm,ar be,ar bm,F,T,append_eq,append_assoc,ao al,ao an,ar al,ar an]);refine ap (ι:=Store) u.kids (λi r c=>gC 27 8 (((u.kids.take i).map U.strip++u.kids.drop i).map U.cs) bk ck c/\(Store.keys (c++(tw++(th++[(N,AObj.cells 27 [.i 0,.i 0,.i 0,.i 0,.str [],.nil,.nil,.nil]),(M,AObj.cells 27 [.i 0,.i 0,.i 0,.i u.kind,.str u.label,.sc (.slice V u.head.length Y),.sc (.slice X u.words.length Z),.sc (.slice bk u.kids.length ck)])])))).Nodup)
   (λi c=>[(1,.p M),(2,.p N),(35,.i u.kids.length),(36,.i i)]) (λi c=>c++(tw++(th++[(N,AObj.cells 27 [.i 0,.i 0,.i 0,.i 0,.str [],.nil,.nil,.nil]),(M,AObj.cells 27 [.i 0,.i 0,.i 0,.i u.kind,.str u.label,.sc (.slice V u.head.length Y),.sc (.slice X u.words.length Z),.sc (.slice bk u.kids.length ck)])]))) O ⟨by simpa using e7,bo⟩ (a0 _ _) (by omega) (λi x r c J D hw=>?_) (λc J hn=>?_)
  ·obtain⟨hO,hN⟩:=J
   rcases hO with⟨h0,_,_⟩|⟨b,pad,rfl,rfl,I,bn,aw,aa⟩
   ·exfalso;have:=congrArg List.length h0;have h9:=D.lt;simp at this;omega
   ·have d1:=mix_len (g:=U.strip) (f:=U.cs) D
    have hi:i<(((u.kids.take i).map U.strip++u.kids.drop i).map U.cs).length:=by rw[d1];exact D.lt
    have e9:¬b=M:=by
     intro e;subst e;exact cF hN (b:=b) (by simp[Store.keys]) (by simp[Store.keys])
    have e5:=j5 (pad:=pad) aw hi;rw[nL D hi]at e5
    have eb:8<=((List.map U.cs (List.map U.strip (List.take i u.kids)++List.drop i u.kids)).flatten++pad).length-i*8:=by rw[aa];rw[d1]at I;have:=D.lt;omega
    have ds:=ep (sz:=8) (off:=0) (c:=x.strip.cs) (by rw[hJ];omega) (pad:=pad) aw hi;rw[qS D hi,Nat.add_zero]at ds;have ef:=ih x D.mem (hs.kid D.mem);(repeat' (first|(with_reducible first|refine AI (by omega) ?_|refine ab ef ?_)|simp only[EV,seval,D.yes,D.le0,D.lt',hw,e9,F,T,ao bb,ao bd,ao be,ao bm,Nat.zero_add,append_eq,e5,ds,length_drop,hJ]|(with_reducible first|refine af ?_ ?_|refine ag ?_)))
    all_goals
     (try rw[ds])
     refine ak D [(b,.cells 27 ((((u.kids.take (i+1)).map U.strip++u.kids.drop (i+1)).map U.cs).flatten++pad))] ⟨.inr ⟨b,pad,rfl,rfl,?_,bn,eP _,?_⟩,by simpa[Store.keys]using hN⟩ (a0 _ _)
     ·rw[lX D];rw[d1]at I;exact I
     ·rw[←aa,length_append,length_append,aA _ (eP _),aA _ (eP _),lX D,d1]
  ·obtain⟨hO,hN⟩:=J;rw[take_length,drop_length,append_nil]at hO;have e0:M∉c.keys:=cF hN (by simp[Store.keys]);have e1:N∉c.keys:=cF hN (by simp[Store.keys]);(try simp only[EV,seval,hn,ao bb,ao bd,ar bb,ar bd,ao be,ao bm,ar be,ar bm,F,T,append_eq,append_assoc,ao e0,ao e1,ar e0,ar e1]);refine rv (σ':=c++(tw++th)) (sS (sS tX)) ⟨V,Y,th,X,Z,tw,bk,ck,c,?_,rfl,?_,?_,?_⟩
   ·rw[rF];simp
   ·rw[rF];exact ad
   ·rw[rF];exact ah
   ·rw[rF];exact hO
end
def sZ {u:U} (E:u.Short):u.lone.Short:=by
 have I:=E.2 u u.flat_self;have D:=(rN u).1 E.1.1
 have e:u.lone.flat=[u.lone]:=by rw[U.flat_eq];show _::U.flats []=_;rw[bv]
 refine⟨⟨(rN _).2 ⟨D.1,D.2.1,D.2.2.1,by simp[U.lone],by simp[U.lone]⟩,by rw[e];simp⟩,?_⟩;intro x F;rw[e,mem_singleton]at F;subst F;exact I
def fit_strip:∀u:U,u.fit->u.strip.fit:=by
 refine U.ind λu ih J=>?_;obtain⟨a,⟨b,I⟩,⟨c,c2⟩,d,e⟩:=(rN u).1 J;rw[rF];refine(rN _).2 ⟨a,⟨by simpa using b,?_⟩,⟨by simpa using c,?_⟩,by simpa using d,?_⟩
 ·intro x D;obtain⟨w,E,rfl⟩:=mem_map.1 D;exact I w E
 ·intro x D;obtain⟨w,E,rfl⟩:=mem_map.1 D;exact c2 w E
 ·intro x D;obtain⟨k,F,rfl⟩:=mem_map.1 D;exact ih k F (e k F)
def kt {u:U} (E:u.Short):u.strip.Short:=by
 refine⟨⟨fit_strip u E.1.1,by rw[eX,length_map];exact E.1.2⟩,?_⟩;intro x I;rw[eX]at I;obtain⟨y,V,rfl⟩:=mem_map.1 I;obtain⟨J,M,N,O,T⟩:=E.2 y V;rw[rF];refine⟨J,by simpa using M,by simpa using N,?_,?_⟩
 ·intro w F;obtain⟨w',D,rfl⟩:=mem_map.1 F;exact O w' D
 ·intro w F;obtain⟨w',D,rfl⟩:=mem_map.1 F;exact T w' D
def U.Short.node {u x:U} (F:u.Short) (D:x∈u.flat):x.Short:=by
 induction u using U.ind with
 |h u ih=>
  rw[U.flat_eq]at D
  rcases mem_cons.1 D with rfl|D
  ·exact F
  ·obtain⟨k,E,D⟩:=jJ D;exact ih k E (F.kid E) D
def repeat2 (n:Nat):Lib.repeatL [32,32] n=List.replicate (2*n) 32:=by
 induction n with
 |zero=>rfl
 |succ n ih=>rw[Lib.repeatL,ih,Nat.mul_add];simp[replicate_succ]
def mr {τ:Store} {w:World} {b:Nat}:∀(xs:List (List UInt8)) (i:Nat),az τ w ⟨b,0,none⟩ 1 i (xs.map srow)->∀(j:Nat) x,xs[j]? =some x->w.cell? ⟨b,i+j,none⟩=some (.string ⟨⟨x⟩⟩)
 |[],i,_,j,x,hx=>by simp at hx
 |y::xs,i,h,j,x,hx=>by
  simp only[srow,map_cons,az,RepAt,Rep]at h;obtain⟨_,⟨⟨u,D,_,rfl⟩,_⟩,E⟩:=h
  cases j with
  |zero=>
   simp at hx;subst hx
   have e:(⟨b,0,none⟩:Addr).add (i*1)=⟨b,i,none⟩:=by unfold Addr.add;by_cases hi:i=0<;>simp[hi]
   have:=D.1;rw[e]at this;exact this
  |succ j=>
   have:=mr xs (i+1) E j x (by simpa using hx);rw[show i+(j+1)=i+1+j by omega];exact this
section
variable (G:Glob)
def f400 (n:Nat) (N:n<=8):Pure G Tryz.prog 400 [.str [32,32],.i n] (.str (List.replicate (2*n) 32)):=by
 refine rV Tryz.func400 (by kernel_rfl) (by kernel_rfl) λτ w vs M I=>?_;obtain⟨u,v,rfl,E,F⟩:=j8 I;simp only[Rep]at E F;subst E F;refine⟨.string ⟨⟨List.replicate (2*n) 32⟩⟩,λ_ _=>by simp only[Rep],?_⟩;have D:(⟨⟨[32,32]⟩⟩:ByteArray).size=2:=rfl;refine(Tryz.strings_Repeat ⟨⟨[32,32]⟩⟩ n w (by omega) (by rw[D];omega)).mono ?_;rintro e w' ⟨rfl,J⟩;exact⟨by rw[←repeat2],J⟩
def f353 (g:Option Nat) (xs:List (List UInt8)) (D:List UInt8) (hn:xs.length<=1000000) (Z:(Lib.join xs D).length<=140737488355328):Pure G Tryz.prog 353 [.own g 9 1 (xs.map srow),.str D] (.str (Lib.join xs D)):=by
 refine rV Tryz.func353 (by kernel_rfl) (by kernel_rfl) λτ w vs hS X=>?_;obtain⟨u,v,rfl,I,O⟩:=j8 X;simp only[Rep]at O;subst O;refine⟨.string ⟨⟨Lib.join xs D⟩⟩,λ_ _=>by simp only[Rep],?_⟩
 have E:∀a c,xs=[]->Calls Tryz.prog 353 #[.slice a 0 c,.string ⟨⟨D⟩⟩] w λe w'=>e= .returned (.string ⟨⟨Lib.join xs D⟩⟩)/\Below w.heap.size w w':=by
  rintro a c rfl;refine(Tryz.strings_Join_none a c ⟨⟨D⟩⟩ w).mono ?_;rintro e w' ⟨rfl,rfl⟩;exact⟨rfl,Below.refl _ _⟩
 cases g with
 |none=>
  simp only[Rep]at I;obtain⟨rfl,M⟩:=I;exact E _ _ (by simpa using M)
 |some b=>
  simp only[Rep]at I;obtain⟨cap,rfl,T,hm,J,hr⟩:=I;rw[length_map]at T ⊢;by_cases M:xs=[]
  ·subst M;exact E _ _ rfl
  ·have N:(xs.map (λx=>(⟨⟨x⟩⟩:ByteArray))).map (·.data.toList)=xs:=by rw[map_map];exact map_id xs
   have Y:b<w.heap.size:=by
    rcases Nat.lt_or_ge b w.heap.size with h|h
    ·exact h
    ·have:w.heap[b]? =none:=Array.getElem?_eq_none h;simp[World.shape?,this]at J
   have F:∀(j:Nat) x,(xs.map (λx=>(⟨⟨x⟩⟩:ByteArray)))[j]? =some x->w.cell? ⟨b,0+j,none⟩=some (.string x):=by
    intro j x V;simp only[getElem?_map,Option.map_eq_some_iff]at V;obtain⟨y,hy,rfl⟩:=V;exact mr xs 0 hr j y hy
   have h:=Tryz.strings_Join b 0 cap (xs.map (λx=>(⟨⟨x⟩⟩:ByteArray))) ⟨⟨D⟩⟩ w F Y (by simp;omega) (by simpa using T) (by rw[N];exact Z);rw[N,length_map]at h;exact h
def f401 (s:List UInt8) (l:List Wd) (hs:s.length<=1000000) (J:aX l=true):Pure G Tryz.prog 401 [.str s,.lst 4 (l.map Wd.cs)] (.str (s++ce l)):=by
 have hl:=nP J;refine Pure.w c401 λR O=>?_;unfold s401 r401;(repeat' (first|(with_reducible (first|refine ae (λh=>?_) λh=>?_|refine ai (λh=>?_) λh=>?_)<;>(try simp only[DZ]at h))|(with_reducible refine AI (by omega) ?_)|simp only[EV,seval,length_append,length_cons,length_nil,E.yes,E.le0,E.lt',E.get,E.row,Z]|simp only[EV,seval,length_append,length_cons,length_nil,V]|simp only[EV,seval,length_append,length_cons,length_nil]|(with_reducible intro M F;(try(have I:=F;simp only[EVK]at I;(have X:=I))))|(refine ap (ι:=List UInt8) (l) (λi r c=>s++ce l=c++ce r/\c.length<=s.length+i*26) (λi c=>[(0,.str c),(7,.lst 4 (l.map Wd.cs)),(8,.i l.length),(9,.i i)]) (λ_ _=>[]) (s) (by((simp;done))) (a0 _ _) (by omega) (λi x r c D E Z=>?_) (λc D V=>?_)<;>(try(obtain⟨hp,Y⟩:=mh J E.mem;have T:=E.lt)))|(refine ak E _ ?_ (Weak.sub (SubN.nil _)))))
 ·rw[D.1]
  have e:escT x.text=92::x.text:=by unfold escT;rw[if_pos];right;exact UInt8.toNat_inj.1 (by show _=92;omega)
  exact⟨by simp[ce,e],by omega⟩
 ·rename_i N;rw[D.1]
  have e:escT x.text=x.text:=by
   unfold escT;rw[if_neg];rintro(h3|h3)
   ·exact N (by rw[h3];rfl)
   ·exact h (by rw[h3];rfl)
  exact⟨by simp[ce,e],by omega⟩
 ·rw[D.1]
  have e:escT x.text=92::x.text:=by unfold escT;rw[if_pos];left;exact UInt8.toNat_inj.1 (by show _=124;omega)
  exact⟨by simp[ce,e],by omega⟩
 ·exact RET.eq O (by rw[D.1];simp[ce])
end
def lone_cs (u:U):u.lone.cs=[.i 0,.i 0,.i 0,.i u.kind,.str u.label,.lst 4 (u.head.map Wd.cs),.lst 4 (u.words.map Wd.cs),.lst 8 []]:=by rw[b0];rfl
section
variable (G:Glob) (hG:GOk G)
include hG
def f399 (u:U) (d:Int) (J:u.Short):Pure G Tryz.prog 399 [.agg u.cs,.i d] (.bool ((decide (0<=d)&&decide (d<=8))&&cx u)):=by
 have F:=f385 G u.lone (sZ J);have I:=f275 G hG u.lone.strip (kt (sZ J));rw[tree_lone]at I;rw[lone_cs]at F;rw[b0 u];refine Pure.w c399 λR N=>?_;unfold s399 r399;(repeat' (first|(with_reducible (refine ai (λh=>?_) λh=>?_)<;>(try simp only[DZ]at h))|(with_reducible refine ab I ?_)|simp only[EV,seval]|(with_reducible intro M D;(try(have E:=D;simp only[EVK]at E;(have O:=E))))|(refine aS F ⟨.inr ⟨.inl rfl,.inl rfl,.inl rfl,.inl rfl,.inl rfl,.inl rfl,.inl rfl,.inr rfl,trivial⟩,trivial⟩ ?_)))
 all_goals(refine RET.eq N (congrArg AV.bool ?_);first|(simp[*];done)|(rw[decide_eq_false (p:=0<=d) (by omega)];rfl)|(rw[decide_eq_false (p:=d<=8) (by omega),Bool.and_false];rfl))
def f387 (u:U) (n:Nat) (F:u.Short) (hn:n<=1000000):Pure G Tryz.prog 387 [.agg u.cs,.i n] (.str (cq u n)):=by
 have J:=f399 G hG u n F;have E:=f374 G hG u.kind;refine Pure.w c387 λR I=>?_;unfold s387 r387;by_cases D:cx u=true/\n<=8
 ·obtain⟨Y,Z,V,X,al⟩:=gW D.1;have b1:=dX V;have b2:=dX X;have b3:=gk u.kind;have T:=f400 G n D.2;rw[D.1,Bool.and_true,show(decide ((0:Int)<=n)&&decide ((n:Int)<=8))=true by simp;omega]at J;rw[if_pos ⟨Y,Z⟩]at E
  have M:cq u n=m9 u n:=by unfold cq;rw[if_pos ⟨D.2,D.1⟩]
  rw[M]at I;have N:=λs F=>f401 G s u.head F V;have O:=λs F=>f401 G s u.words F X;(repeat' (first|(with_reducible (refine ae (λh=>?_) λh=>?_)<;>(try simp only[DZ]at h))|(with_reducible first|refine AI (by omega) ?_|refine ab J ?_|refine ab E ?_|refine ab T ?_|refine ab (N _ (by simp;omega)) ?_|refine ab (O _ (by simp;omega)) ?_)|simp only[EV,seval,length_append,length_cons,length_nil,length_replicate]))
  all_goals(refine RET.eq I (congrArg AV.str ?_);unfold m9;(repeat first|rw[if_pos (by omega)]|rw[if_neg (by omega)]);simp;done)
 ·have e:((decide ((0:Int)<=n)&&decide ((n:Int)<=8))&&cx u)=false:=by
   rw[Bool.eq_false_iff];intro h;simp at h;exact D ⟨h.2,by omega⟩
  rw[e]at J
  have M:cq u n=[]:=by unfold cq;rw[if_neg (λh=>D ⟨h.2,h.1⟩)]
  rw[M]at I;(repeat' (first|(with_reducible refine ab J ?_)|simp only[EV,seval]));(all_goals((exact RET.eq I rfl)))
end
end Go.Av

/-
  ENACT, M26: what is done to a unit: kids cut out and put in, words, heading, label.
-/
import Derived.Test.YtppjieiiibgagaaGreatDoorWXM23toXM25
import Derived.Test.YtppjieiiibgagaaGreatDoorWXU4toXN0
import Derived.Test.YtppjieiiibgagaaGreatDoorWXM11toXM16
import Derived.Test.YtppjieiiibgagaaGreatDoorWXAv34toXM15
set_option linter.all false
namespace Go.Av
open Go Go.RowKit Go.Proofs List
def ub {t a b c:Nat×AObj} {κ:Store}:SubN ((κ++[t])++[a,b,c]) (t::a::b::c::κ):=by
 have e:(κ++[t])++[a,b,c]=κ++[t,a,b,c]:=by simp
 rw[e];exact nm (perm_append_comm (l₁:=κ) (l₂:=[t,a,b,c]))
def uc {t a b c:Nat×AObj} {κ:Store}:SubN (a::b::c::κ) ((κ++[t])++[a,b,c]):=by
 have e:(κ++[t])++[a,b,c]=κ++[t,a,b,c]:=by simp
 rw[e];exact SubN.trans (SubN.tail (SubN.refl _) t) (nm (perm_append_comm (l₁:=[t,a,b,c]) (l₂:=κ)))
section
variable (G:Glob)
def d313 (E j:Nat) (x:U) (Z:j<x.kids.length) (hl:x.kids.length<1000000):
  kz G (.func (.func 313) #[] #[.p E]) (λy=>{y with kids:=aG y.kids j}) [(E,.cells 3 [.i j])] x:=by
 intro b v κ X I
 refine⟨_,_,_,rfl,?_⟩
 have M:=f277 G _ v κ X j (by rw[length_map];exact Z) (by rw[length_map];exact hl)
 have hv:=X
 obtain⟨T,cap,rfl,_⟩:=hv
 have Y:¬b=E:=by simp[Store.keys]at I;exact I.1.1
 have q2:¬E=b:=λe=>Y e.symm
 have hw:IntKind.i64.wrap ((j:Int)+1)=((j+1:Nat):Int):=by rw[av (by omega) (by omega)];omega
 rw[length_map]at M
 have N:(x.kids.map U.cs).take j++(x.kids.map U.cs).drop (j+1)=(aG x.kids j).map U.cs:=by unfold aG;rw[map_append,map_take,map_drop]
 rw[N]at M
 show aj G Tryz.prog 313 [.p b,.p E] _ _
 simp only[U.csv]
 refine aj.w c313 ?_
 unfold s313 r313
 (repeat' (first|simp only[EV,seval,Y,q2,hw]|(with_reducible first|refine af ?_ ?_|refine ag ?_)|(refine bq κ [(b,_),(E,_)] M.v (hH _) (nm (perm_append_comm (l₁:=κ) (l₂:=[_,_]))) (λr1 J hr V=>?_))|(refine⟨_,nm (perm_append_comm (l₁:=[_,_]) (l₂:=J)),?_⟩)|(obtain⟨D,F,rfl,O⟩:=hr)))
 all_goals exact rv (SubN.refl _) ⟨_,J,⟨D,F,by rw[length_map],O⟩,rfl⟩
def d220 (D:Nat) (w:List Wd) (x:U):
  kz G (.func (.func 220) #[] #[.p D]) (λy=>{y with words:=w}) [(D,.cells 24 [.lst 4 (w.map Wd.cs)])] x:=by
 intro b v κ I E
 have F:¬b=D:=by simp[Store.keys]at E;exact E.1.1
 have J:¬D=b:=λe=>F e.symm
 refine⟨_,_,_,rfl,?_⟩
 show aj G Tryz.prog 220 [.p b,.p D] _ _
 simp only[U.csv]
 refine aj.w c220 ?_
 unfold s220 r220
 (repeat' (simp only[EV,seval,F,J]))
 all_goals exact rv (SubN.refl _) ⟨_,κ,I,rfl⟩
def d222 (D:Nat) (w:List Wd) (x:U):
  kz G (.func (.func 222) #[] #[.p D]) (λy=>{y with words:=w}) [(D,.cells 24 [.lst 4 (w.map Wd.cs)])] x:=by
 intro b v κ I E
 have F:¬b=D:=by simp[Store.keys]at E;exact E.1.1
 have J:¬D=b:=λe=>F e.symm
 refine⟨_,_,_,rfl,?_⟩
 show aj G Tryz.prog 222 [.p b,.p D] _ _
 simp only[U.csv]
 refine aj.w c222 ?_
 unfold s222 r222
 (repeat' (simp only[EV,seval,F,J]))
 all_goals exact rv (SubN.refl _) ⟨_,κ,I,rfl⟩
def d224 (D:Nat) (w:List Wd) (x:U):
  kz G (.func (.func 224) #[] #[.p D]) (λy=>{y with head:=w}) [(D,.cells 24 [.lst 4 (w.map Wd.cs)])] x:=by
 intro b v κ I E
 have F:¬b=D:=by simp[Store.keys]at E;exact E.1.1
 have J:¬D=b:=λe=>F e.symm
 refine⟨_,_,_,rfl,?_⟩
 show aj G Tryz.prog 224 [.p b,.p D] _ _
 simp only[U.csv]
 refine aj.w c224 ?_
 unfold s224 r224
 (repeat' (simp only[EV,seval,F,J]))
 all_goals exact rv (SubN.refl _) ⟨_,κ,I,rfl⟩
def d225 (D:Nat) (d:Dd) (x:U):
  kz G (.func (.func 225) #[] #[.p D]) (λy=>{y with label:=d.it.label}) [(D,.cells 36 d.cs)] x:=by
 intro b v κ I E
 have F:¬b=D:=by simp[Store.keys]at E;exact E.1.1
 have J:¬D=b:=λe=>F e.symm
 refine⟨_,_,_,rfl,?_⟩
 show aj G Tryz.prog 225 [.p b,.p D] _ _
 simp only[U.csv]
 unfold Dd.cs
 rw[dT]
 refine aj.w c225 ?_
 unfold s225 r225
 (repeat' (simp only[EV,seval,F,J]))
 all_goals exact rv (SubN.refl _) ⟨_,κ,I,rfl⟩
def d216 (E F j:Nat) (y x:U) (hj:j<=x.kids.length) (hl:x.kids.length<1000000):
  kz G (.func (.func 216) #[] #[.p E,.p F]) (λz=>{z with kids:=aH z.kids j y}) [(E,.cells 3 [.i j]),(F,.cells 27 y.cs)] x:=by
 intro b v κ ho D
 have hv:=ho
 obtain⟨ad,cap,rfl,_⟩:=hv
 rw[length_map]at ho
 have q:¬b=E/\¬b=F/\¬E=F:=by simp[Store.keys]at D;exact⟨D.1.1,D.1.2.1,D.2.1.1⟩
 obtain⟨q1,q2,q3⟩:=q
 have T:¬E=b:=λe=>q1 e.symm
 have V:¬F=b:=λe=>q2 e.symm
 have X:¬F=E:=λe=>q3 e.symm
 have hC:=λbo=>f217 G _ _ κ ho j (by rw[length_map];exact hj) (by rw[length_map];exact hl) bo y.cs (hJ y)
 have Y:eO (x.kids.map U.cs) j y.cs=(aH x.kids j y).map U.cs:=by unfold eO aH;rw[map_append,map_cons,map_take,map_drop]
 rw[Y]at hC
 refine⟨_,_,_,rfl,?_⟩
 show aj G Tryz.prog 216 [.p b,.p E,.p F] _ _
 simp only[U.csv,length_map]
 refine aj.w c216 ?_
 unfold s216 r216
 (repeat' (first|simp only[EV,seval,q1,q2,q3,T,V,X,Z]|simp only[EV,seval,q1,q2,q3,T,V,X]|(with_reducible intro J N;(try(have O:=N;simp only[EVK]at O;(have Z:=O))))|(with_reducible first|refine af ?_ ?_|refine ag ?_)|(refine⟨[y.cs],rfl,(by simp[hJ]),(by simp),?_⟩)|(refine bq (κ++[(J,_)]) [(b,_),(E,_),(F,_)] (hC J).v (hH _) ub (λr1 al hr ah=>?_))|(obtain⟨ac,⟨I,M,rfl,aa⟩,rfl⟩:=hr)|(refine⟨_,uc,?_⟩)))
 all_goals exact rv (SubN.refl _) ⟨_,ac,⟨I,M,by rw[length_map],aa⟩,rfl⟩
def d226 (E F j:Nat) (y x:U) (hj:j<=x.kids.length) (hl:x.kids.length<1000000):
  kz G (.func (.func 226) #[] #[.p E,.p F]) (λz=>{z with kids:=aH z.kids j y}) [(E,.cells 3 [.i j]),(F,.cells 27 y.cs)] x:=by
 intro b v κ ho D
 have hv:=ho
 obtain⟨ad,cap,rfl,_⟩:=hv
 rw[length_map]at ho
 have q:¬b=E/\¬b=F/\¬E=F:=by simp[Store.keys]at D;exact⟨D.1.1,D.1.2.1,D.2.1.1⟩
 obtain⟨q1,q2,q3⟩:=q
 have T:¬E=b:=λe=>q1 e.symm
 have V:¬F=b:=λe=>q2 e.symm
 have X:¬F=E:=λe=>q3 e.symm
 have hC:=λbo=>f217 G _ _ κ ho j (by rw[length_map];exact hj) (by rw[length_map];exact hl) bo y.cs (hJ y)
 have Y:eO (x.kids.map U.cs) j y.cs=(aH x.kids j y).map U.cs:=by unfold eO aH;rw[map_append,map_cons,map_take,map_drop]
 rw[Y]at hC
 refine⟨_,_,_,rfl,?_⟩
 show aj G Tryz.prog 226 [.p b,.p E,.p F] _ _
 simp only[U.csv,length_map]
 refine aj.w c226 ?_
 unfold s226 r226
 (repeat' (first|simp only[EV,seval,q1,q2,q3,T,V,X,Z]|simp only[EV,seval,q1,q2,q3,T,V,X]|(with_reducible intro J N;(try(have O:=N;simp only[EVK]at O;(have Z:=O))))|(with_reducible first|refine af ?_ ?_|refine ag ?_)|(refine⟨[y.cs],rfl,(by simp[hJ]),(by simp),?_⟩)|(refine bq (κ++[(J,_)]) [(b,_),(E,_),(F,_)] (hC J).v (hH _) ub (λr1 al hr ah=>?_))|(obtain⟨ac,⟨I,M,rfl,aa⟩,rfl⟩:=hr)|(refine⟨_,uc,?_⟩)))
 all_goals exact rv (SubN.refl _) ⟨_,ac,⟨I,M,by rw[length_map],aa⟩,rfl⟩
end
def RET.keep {x v:AV} {σ D:Store} (F:x=v) (E:SubN σ D):RET x D (λr σ'=>r=v/\σ'=σ):=⟨v,σ,F ▸ rH _,E,rfl,rfl⟩
def oW (G:Glob) (j:Idd) (u:U) (F:u.Short):Pure G Tryz.prog 27 [.agg u.cs,.agg j.cs] (.tup [.agg (fnd j u).cs,.bool (hasP j u)]):=by
 have D:=f27 G j u F;unfold iL at D;rw[has_way]at D
 cases h:hasP j u with
 |true=>
  rw[h]at D;exact D
 |false=>
  rw[h]at D;simp only[Bool.not_false,if_true]at D
  have E:fnd j u=noU:=by
   unfold Go.Av.fnd;rw[(cE u).2 (of_decide_eq_false h)];rfl
  rw[E];refine sw D ?_;rintro r σ' ⟨rfl,rfl⟩;refine LeRep.tup (.cons (LeRep.agg ?_) (.cons (LeRep.refl _) .nil));rw[b0];unfold zU noU
  repeat' first
   |exact LeReps.nil
   |refine LeReps.cons ?_ ?_
  all_goals first|exact LeRep.refl _|exact LeRep.nil
def fc:noU.Short:=by
 have F:noU.fit:=(rN _).2 ⟨by decide,⟨by decide,by simp[noU]⟩,⟨by decide,by simp[noU]⟩,by decide,by simp[noU]⟩
 have D:noU.flat=[noU]:=by rw[U.flat_eq];show noU::U.flats []=_;rw[U.flats]
 refine⟨⟨F,by rw[D];decide⟩,?_⟩;rw[D];intro x E;simp only[mem_singleton]at E;subst E;exact⟨by decide,by decide,by decide,by simp[noU],by simp[noU]⟩
def nl {u:U} (E:u.Short) (j:Idd):(fnd j u).Short:=by
 cases h:U.way j u with
 |nil=>
  unfold Go.Av.fnd;rw[h];exact fc
 |cons x l=>
  obtain⟨y,D⟩:∃y,(U.way j u).getLast?=some y:=by rw[h];exact⟨_,getLast?_eq_some_getLast (by simp)⟩
  rw[aB D];exact E.node (oz u _ (mem_of_getLast? D))
section
variable (G:Glob)
def f179 {σ:Store} {l:List (Value×Bool×Int)} (N:l.length<1000000)
  (T:∀x∈l,∃F,SubN F σ/\cu G Tryz.prog x.1 [] F (λr σ'=>r= .bool x.2.1/\σ'=F)):aj G Tryz.prog 179 [.lst 2 (l.map ckRow)] σ λr σ'=>r= .i (ff l)/\σ'=σ:=by
 refine tu c179 λR M=>?_
 unfold s179 r179
 (repeat' (first|(with_reducible (refine ae (λh=>?_) λh=>?_)<;>(try simp only[DZ]at h))|simp only[EV,seval,E.yes,E.le0,E.lt',E.get,E.row,Y,ckRow]|simp only[EV,seval,V]|simp only[EV,seval]|(with_reducible intro O I;(try(have J:=I;simp only[EVK]at J;(have X:=J))))|(refine ap l (λi r (c:Unit)=>ff l=ff r) (λi c=>[(5,.lst 2 (l.map ckRow)),(6,.i l.length),(7,.i i)]) (λ_ _=>σ) () rfl (a0 _ _) (by omega) (λi x r c D E Y=>?_) (λc D V=>?_))|(refine fm ((T x E.mem).elim λ_ q=>q.2.keepIn q.1) (SubN.tail (SubN.refl _) _) ?_)|fail))
 ·exact M _ _ (.inl (.inl (by rw[D,ff,if_pos h]))) (SubN.tail (SubN.refl _) _)
 ·exact ak E () (by rw[D,ff,if_neg (by simp[h])]) (Weak.sub (SubN.tail (SubN.refl _) _))
 ·exact M _ _ (.inl (.inl (by rw[D];rfl))) (SubN.refl _)
def lF {σ:Store} {g:Option Nat} {T:TypeId} {l:List (Value×Bool×Int)} {K:AV->Store->Prop} {t:Tag K} {rows:List (List AV)} (D:rows=l.map ckRow) (F:l.length<1000000)
  (J:∀x∈l,∃E,SubN E σ/\cu G Tryz.prog x.1 [] E (λr σ'=>r= .bool x.2.1/\σ'=E)) (I:K (.i (ff l)) σ):CALL G Tryz.prog (.func (.func 179) #[] #[]) [.own g T 2 rows] σ K t:=by
 subst D
 exact bl σ [] (f179 G F J).v ⟨.inl (.inr ⟨rfl,rfl⟩),trivial⟩ (by rw[append_nil];exact SubN.refl _) (by rintro _ _ ⟨rfl,rfl⟩;rw[append_nil];exact I)
set_option maxHeartbeats 4000000 in
def f186:∀(u:U),u.Short->Pure G Tryz.prog 186 [.agg u.cs] (.agg u.cs):=by
 refine U.ind λu ih hs=>?_;have h0:=hs.2 u u.flat_self;have cw:=hs.1.kids;have bn:=f65p G u.head h0.2.1;have bs:=f65p G u.words h0.2.2.1;have bo:=f278 G (u.kids.map U.cs) (eP _) (by rw[length_map];omega);refine sC (R1:=λσ'=>σ'=[]) ?_;refine aj.w c186 ?_;unfold s186 r186;refine W_tail2 λY hY=>?_;have ah:∀(I J:Nat) (v:AV) (κ:Store),bI 27 8 (u.kids.map U.cs) v κ->(κ.keys++[J,I]).Nodup->
   W G Tryz.prog Y (retQ [(2,some (true,8))] λr σ'=>∃xs κ bh,r= .agg xs/\FrzL κ xs u.cs/\σ'=κ++bh/\bh=[]) [(1,.p I),(2,.p J)] ((I,.cells 27 (U.csv u v))::(J,.cells 27 zU)::κ) ⟨⟩:=by
  intro I J v κ X V
  subst hY
  have hv:=X
  obtain⟨M,cap,rfl,hv⟩:=hv
  rw[length_map]at X
  have Z:¬I=J:=by
   have:=(nodup_append.1 V).2.1;simp at this;exact λe=>this e.symm
  have q2:¬J=I:=λe=>Z e.symm
  rcases hv with⟨h1,h2,h3⟩|⟨T,pad,rfl,rfl,g1,g2,g3,g4⟩
  ·have an:u.kids=[]:=map_eq_nil_iff.1 h1
   subst h3;simp only[an,map_nil,length_nil]at X ⊢;unfold U.csv;(repeat' (first|(with_reducible (refine ae (λh=>?_) λh=>?_)<;>(try simp only[DZ]at h))|simp only[EV,seval,Z,q2,U.csv,D.yes,D.le0,D.lt',D.get,D.row,hw]|simp only[EV,seval,Z,q2,U.csv,hn]|simp only[EV,seval,Z,q2,U.csv]|(refine ap ([]:List U) (λE r (c:Unit)=>True) (λE c=>[(1,.p I),(2,.p J),(18,.sc (.slice M 0 cap)),(19,.i (0:Nat)),(20,.i E)]) (λE c=>[(I,.cells 27 (U.csv u (.sc (.slice M 0 cap)))),(J,.cells 27 zU)]) () trivial (a0 _ _) (by simp) (λE x r c ad D hw=>?_) (λc ad hn=>?_))|(exfalso;omega)|fail))
   all_goals try exact absurd D.mem (by simp)
   all_goals exact rv (SubN.nil _) ⟨_,[],[],rfl,sm (x:=u) (by rw[an];exact X),rfl,rfl⟩
  ·rw[length_map]at g1
   simp[Store.keys]at V
   have q3:¬I=T:=by omega
   have q4:¬J=T:=by omega
   have bd:¬T=I:=λe=>q3 e.symm;have be:¬T=J:=λe=>q4 e.symm;(repeat' (first|simp only[EV,seval,Z,q2,U.csv,length_map,D.yes,D.le0,D.lt',D.get,D.row,hw]|simp only[EV,seval,Z,q2,U.csv,length_map,hn]|simp only[EV,seval,Z,q2,U.csv,length_map]|(refine ap u.kids (λE r (c:Unit)=>True) (λE c=>[(1,.p I),(2,.p J),(18,.sc (.slice (some ⟨T,0,none⟩) u.kids.length cap)),(19,.i u.kids.length),(20,.i E)]) (λE c=>[(I,.cells 27 (U.csv u (.sc (.slice (some ⟨T,0,none⟩) u.kids.length cap)))),(J,.cells 27 zU),(T,.cells 27 ((u.kids.map U.cs).flatten++pad))]) () trivial (a0 _ _) (by omega) (λE x r c ad D hw=>?_) (λc ad hn=>?_))|fail))
   ·have ac:=D.lt
    have aw:u.kids[E]? =some x:=by rw[getElem?_eq_getElem ac,←D.get x];simp[ac]
    have bw:(u.kids.map U.cs)[E]? =some x.cs:=by rw[getElem?_map,aw];rfl
    have al:(((u.kids.map U.cs).flatten++pad).drop (0+E*8)).take 8=x.cs:=by simpa using kM (pad:=pad) g3 bw
    have cm:8<=(((u.kids.map U.cs).flatten++pad).drop (0+E*8)).length:=by
     rw[length_drop,g4];omega
    have cp:0+E*8+8<=((u.kids.map U.cs).flatten++pad).length:=by
     rw[g4];omega
    have ch:u.kids.set E x=u.kids:=by
     apply ext_getElem?;intro j;rw[getElem?_set];split
     ·rename_i e;subst e;exact aw.symm
     ·rfl
    have aa:aM ((u.kids.map U.cs).flatten++pad) (0+E*8) x.cs=(u.kids.map U.cs).flatten++pad:=by
     have:=ju (pad:=pad) (c:=x.cs) g3 (i:=E) (by rw[length_map];exact ac) (hJ _);rw[←map_set,ch]at this;simpa using this
    have bx:=ih x D.mem (hs.kid D.mem);have bb:=hJ x;(repeat' (first|(with_reducible first|refine AI (by omega) ?_|refine ab bx ?_)|simp only[EV,seval,D.yes,D.le0,D.lt',D.get,hw,al,aa,Z,q2,q3,q4,bd,be,bb,O]|simp only[EV,seval,D.yes,D.le0,D.lt',D.get,hw,al,aa,Z,q2,q3,q4,bd,be,bb]|(with_reducible intro bm N;(try(have F:=N;simp only[EVK]at F;(have O:=F))))|(with_reducible first|refine af ?_ ?_|refine ag ?_)|fail))
    all_goals exact ak D () trivial (Weak.sub (SubN.tail (SubN.refl _) _))
   ·(repeat' ((exfalso;omega)))
    all_goals exact rv (σ':=[(T,_)]) (SubN.tail (SubN.tail (SubN.refl _) _) _) ⟨_,[(T,_)],[],rfl,sm (x:=u) X,by simp,rfl⟩
 clear hY;(repeat' (first|(with_reducible first|refine ab bn ?_|refine ab bs ?_)|simp only[EV,seval,b0 u,O]|simp only[EV,seval,b0 u]|(with_reducible intro bm N;(try(have F:=N;simp only[EVK]at F;first|(have O:=AI F O)|(have O:=F))))|(with_reducible first|refine af ?_ ?_|refine ag ?_)|(refine bq [] ((_,_)::(_,_)::[]) bo.v (hH _) (SubN.refl _) (λv κ X V=>⟨_,su,?_⟩);have hv:=X;obtain⟨M,cap,rfl,_⟩:=hv)|fail))
 all_goals(rw[length_map]at X;exact ah _ _ _ _ X (by simpa[Store.keys]using V))
end
def tM {l κ σ:Store}:SubN (l++(κ++σ)) (κ++(l++σ)):=nm (by
 rw[←append_assoc,←append_assoc]
 exact List.Perm.append_right σ perm_append_comm)
def ut {a b c d:Nat×AObj} {κ σ:Store}:SubN (a::b::c::d::(κ++σ)) (κ++a::b::c::d::σ):=tM (l:=[a,b,c,d])
def iR (j:Idd) (us:List U):Bool:=decide (j∈U.idss us)
def ids_kid {j:Idd} {u:U} (h:u.id≠j):hasP j u=iR j u.kids:=by
 unfold hasP iR;rw[o5];simp[mem_cons,Ne.symm h]
def lO (j:Idd) (k:U) (us:List U):iR j (k::us)=(hasP j k||iR j us):=by
 unfold iR hasP;rw[eH,Bool.eq_iff_iff];simp
def nd_kid:∀{us:List U},(U.idss us).Nodup->∀{x:U},x∈us->x.ids.Nodup
 |[],_,x,hx=>by cases hx
 |y::us,h,x,hx=>by
  rw[eH,nodup_append]at h
  rcases mem_cons.1 hx with rfl|hx
  ·exact h.1
  ·exact nd_kid h.2.1 hx
section
variable (G:Glob)
set_option maxHeartbeats 8000000 in
def f286 (f:Value) (g:U->U) (σ:Store) (i:Idd):∀(u:U),u.Short->u.ids.Nodup->(i∈u.ids->DoesV G f g σ (fnd i u))->
  aj G Tryz.prog 286 [.agg u.cs,.agg i.cs,.sc f] σ (λr σ'=>r= .tup [.agg (if i∈u.ids then U.wth i g u else u).cs,.bool (hasP i u)]/\σ'=σ):=by
 refine U.ind λu ih hs hn hD=>?_
 have ds:=hs.1.kids
 have bo:=f278 G (u.kids.map U.cs) (eP _) (by rw[length_map];omega)
 by_cases Z:u.id=i
 ·have e0:decide (u.id=i)=true:=decide_eq_true Z
  have bw:fnd i u=u:=aB (by rw[aN Z];rfl);have hi:i∈u.ids:=Z ▸ cS u;have hD:=hD hi;rw[bw]at hD;unfold DoesV at hD;rw[if_pos hi,aZ Z,hasP,decide_eq_true hi];refine aj.w c286 ?_;unfold s286 r286;rw[b0 u]at hD ⊢;(repeat' (first|simp only[EV,seval,am,e0,D]|simp only[EV,seval,am,e0]|(with_reducible intro I F;(try(have E:=F;simp only[EVK]at E;(have D:=E))))|(refine fm hD (SubN.tail (SubN.tail (SubN.refl _) _) _) ?_)|fail))
  all_goals exact RET.keep rfl (SubN.tail (SubN.tail (SubN.refl _) _) _)
 ·have e0:decide (u.id=i)=false:=decide_eq_false Z
  have bb:=(rB hn).1;have ch:=ids_kid (j:=i) Z;refine uk (R1:=λσ'=>σ'=σ) rfl ?_;refine aj.w c286 ?_;unfold s286 r286;have hU:=b0 u;obtain⟨ys,V⟩:∃ys,(if i∈u.ids then U.wth i g u else u).cs=ys:=⟨_,rfl⟩;rw[V];obtain⟨hb,aa⟩:∃b,hasP i u=b:=⟨_,rfl⟩;rw[aa];rw[hU];(repeat' (first|simp only[EV,seval,am,e0,D]|simp only[EV,seval,am,e0]|(with_reducible intro I F;(try(have E:=F;simp only[EVK]at E;(have D:=E))))|fail));rename_i b3 dd;refine ap u.kids (λO r (c:Unit)=>hb=iR i r) (λO c=>[(2,.sc f),(3,.p b3),(4,.ref i.cs),(6,.p I),(20,.lst 8 (u.kids.map U.cs)),(21,.i u.kids.length),(22,.i O)]) (λO c=>[(I,.cells 27 zU),(b3,.cells 27 (U.csv u (.lst 8 (u.kids.map U.cs))))]++σ) () (aa ▸ ch) (a0 _ _) (by omega) (λO x r c M J hw=>?_) (λc M hn=>?_)
  ·have N:=J.lt
   have bm:u.kids[O]? =some x:=by rw[getElem?_eq_getElem N,←J.get x];simp[N]
   have bn:=hs.kid J.mem;rw[lO]at M
   have aw:u.kids≠[]:=λe=>by rw[e]at N;cases N
   have ac:¬b3=I:=λe=>D.1 e.symm;generalize dl:I=b6 at*;clear E
   cases hp:hasP i x with
   |true=>
    have ad:i∈x.ids:=of_decide_eq_true hp
    have be:i∈u.ids:=by rw[o5];exact mem_cons_of_mem _ (dE J.mem ad)
    have an:u.kids=u.kids.take O++x::u.kids.drop (O+1):=by
     have h3:u.kids.drop O=x::u.kids.drop (O+1):=by
      rw[drop_eq_getElem_cons N];congr 1;rw[getElem?_eq_getElem N]at bm;exact Option.some.inj bm
     rw[←h3,take_append_drop]
    have sp:=oG an bb ad;have bx:=mV Z sp;clear an;have T:=ih x J.mem bn sp.nd (λ_=>by rw[←bx];exact hD be);have bh:=sp.wth (f:=g) Z;rw[hp]at M
    have cm:u.kids.take O++U.wth i g x::u.kids.drop (O+1)=u.kids.set O (U.wth i g x):=by
     rw[set_eq_take_append_cons_drop,if_pos N]
    rw[cm]at bh;rw[if_pos be]at V;rw[if_pos ad,hp]at T;simp only[Idd.cs]at T;have al:=hJ (U.wth i g x);have ah:=hJ x;(repeat' (first|simp only[EV,seval,J.yes,J.le0,J.lt',J.get,J.row,hw,ac,al,ah,U.csv,D]|(with_reducible intro I F;(try(have E:=F;simp only[EVK]at E;(have D:=AI E D))))|(refine fm T.v (SubN.tail (SubN.tail (SubN.tail (SubN.refl _) _) _) _) ?_)|fail));rename_i b9 _ _ _;refine bq [] ((I,_)::(b9,_)::(b6,_)::(b3,_)::σ) bo.v (hH _) (SubN.refl _) (λv κ ho cp=>⟨_,ut,?_⟩);have hv:=ho;obtain⟨d3,cap,rfl,hv⟩:=hv;rw[length_map]at ho;obtain⟨X,pad,rfl,rfl,g1,g2,g3,g4⟩:=hv.resolve_left (λh=>aw (map_eq_nil_iff.1 h.1));simp[Store.keys]at cp
    have n1:¬X=I:=by omega
    have n2:¬X=b9:=by omega
    have n3:¬X=b6:=by omega
    have n4:¬X=b3:=by omega
    have cw:¬I=X:=λe=>n1 e.symm;have d0:¬b9=X:=λe=>n2 e.symm;have d1:¬b6=X:=λe=>n3 e.symm;have d2:¬b3=X:=λe=>n4 e.symm;rw[length_map]at g1
    have bd:aM ((u.kids.map U.cs).flatten++pad) (0+O*8) (U.wth i g x).cs=((u.kids.set O (U.wth i g x)).map U.cs).flatten++pad:=by
     rw[map_set];simpa using ju (pad:=pad) g3 (by rw[length_map];exact N) (hJ _)
    have dc:0+O*8+8<=((u.kids.map U.cs).flatten++pad).length:=by
     rw[g4];omega
    (repeat' (first|(with_reducible refine AI (by omega) ?_)|simp only[EV,seval,J.le0,J.lt',ac,al,bd,n1,n2,n3,n4,cw,d0,d1,d2,D]|fail));rw[Bool.true_or]at M;subst M;refine rv (σ':=[(X,_)]++σ) (SubN.tail (SubN.tail (SubN.tail (SubN.tail (SubN.refl _) _) _) _) _) ⟨_,[(X,_)],σ,rfl,?_,rfl,rfl⟩;rw[←V,bh];refine sm (x:={u with kids:=u.kids.set O (U.wth i g x)}) (bI.mk (by rw[length_map,length_set]) (by rw[length_map,length_set];exact g1) g2 (eP _) ?_);rw[←g4,length_append,length_append,aA _ (eP _),aA _ (eP _),length_map,length_map,length_set]
   |false=>
    rw[hp]at M;have Y:i∉x.ids:=of_decide_eq_false hp;have T:=ih x J.mem bn (nd_kid bb J.mem) (λh=>absurd h Y);rw[if_neg Y,hp]at T;simp only[Idd.cs]at T;have ah:=hJ x;(repeat' (first|simp only[EV,seval,J.yes,J.le0,J.lt',J.get,J.row,hw,ac,ah,U.csv,D]|(with_reducible intro I F;(try(have E:=F;simp only[EVK]at E;(have D:=AI E D))))|(refine fm T.v (SubN.tail (SubN.tail (SubN.tail (SubN.refl _) _) _) _) ?_)|fail))
    all_goals exact ak J () (by rw[M,Bool.false_or]) (Weak.sub (SubN.tail (SubN.tail (SubN.refl _) _) _))
  ·have Y:i∉u.ids:=by
    intro h
    have:hb=true:=by rw[←aa];exact decide_eq_true h
    rw[M]at this;simp[iR,rL]at this
   rw[if_neg Y]at V
   have bs:hb=false:=by rw[M];simp[iR,rL]
   subst bs;(repeat' (simp only[EV,seval,hn,U.csv,D]));refine rv (σ':=σ) (SubN.tail (SubN.tail (SubN.refl _) _) _) ⟨_,[],σ,rfl,?_,rfl,rfl⟩;rw[←V,hU];exact pd _
def f188 (f:Value) (g:U->U) (σ:Store) (i:Idd) (u:U) (O:u.Short) (X:u.ids.Nodup) (hi:i∈u.ids) (V:DoesV G f g σ (fnd i u)):
  aj G Tryz.prog 188 [.agg u.cs,.agg i.cs,.sc f] σ (λr σ'=>r= .agg (U.wth i g u).cs/\σ'=σ):=by
 have N:=f186 G u O
 have J:=f286 G f g σ i u O X (λ_=>V)
 rw[if_pos hi,hasP,decide_eq_true hi]at J
 simp only[Idd.cs]at J
 have D:=hJ (U.wth i g u)
 refine aj.w c188 ?_
 unfold s188 r188
 generalize (U.wth i g u).cs=ys at*
 have E:ys.take 8=ys:=take_of_length_le (by omega)
 rw[b0 u]at N J ⊢
 (repeat' (first|(with_reducible refine ab N ?_)|simp only[EV,seval,D,E,M]|simp only[EV,seval,D,E]|(with_reducible intro T F;(try(have I:=F;simp only[EVK]at I;(have M:=I))))|(with_reducible first|refine af ?_ ?_|refine ag ?_)|(refine fm J.v (by repeat(first|exact SubN.refl _|refine SubN.tail ?_ _)) ?_)|fail))
 all_goals exact RET.keep (by simp[D,E]) (by repeat(first|exact SubN.refl _|refine SubN.tail ?_ _))
end
def lI (w:List Wd) (D:List (List UInt8)) (a b:Int) (E:Nat):∀(ps:List Nat) (s:Nat) (m:Int),Gaps w.length E s ps->s<=w.length->(putL w D a b E ps m).length<=w.length+ps.length*D.length/\∀p r,ps=p::r->p+E<=(putL w D a b E r (m+D.length)).length
 |[],s,m,_,_=>by rw[putL];simp
 |p::ps,s,m,⟨h1,h2,h3⟩,hs=>by
  have ih:=lI w D a b E ps (p+E) (m+D.length) h3 (by omega);have e:=j0 w D a b E ps (p+E) (m+D.length) h3
  have F:p+E<=(putL w D a b E ps (m+D.length)).length:=by
   rw[e,length_append,length_take];omega
  refine⟨?_,?_⟩
  ·rw[putL,length_append,length_append,length_take,length_drop,bz,length_cons,Nat.add_mul];have:=ih.1;omega
  ·rintro q r I
   injection I with hq1 hq2
   subst hq1 hq2;exact F
def ka {n g:Nat}:∀{ps:List Nat} {s:Nat} (j:Nat),s<=n->Gaps n g s ps->∃D,D<=n/\Gaps n g D (ps.drop j)
 |[],s,j,hs,_=>⟨s,hs,by rw[drop_nil];trivial⟩
 |p::ps,s,0,hs,h=>⟨s,hs,h⟩
 |p::ps,s,j+1,hs,⟨h1,h2,h3⟩=>ka (ps:=ps) j h2 h3
def mL (q:List Wd):AV:=if 256<q.length then .tup [.nil,.i 6]else .tup [.lst 4 (q.map Wd.cs),.i 0]
section
variable (G:Glob)
set_option maxHeartbeats 2000000 in
def f315 (w:List Wd) (ps:List Nat) (E:Nat) (D:List (List UInt8)) (a b:Int) (hw:w.length<=100000) (e7:ps.length<=100000) (bx:D.length<=1000) (e2:E<=100000) (hG:Gaps w.length E 0 ps):
  Pure G Tryz.prog 315 [.lst 4 (w.map Wd.cs),.lst 1 (ps.map prow),.i E,.lst 1 (D.map srow),.i a,.i b] (mL (putL w D a b E ps 0)):=by
 refine un ?_
 refine aj.w c315 ?_
 unfold s315 r315
 have T:0+w.length*4<=(List.replicate w.length [AV.str [],.i 0,.i 0,.i 0]).flatten.length:=by rw[ct];simp
 have an:(w.map Wd.cs).flatten.length=w.length*4:=by rw[aA _ (jn _),length_map]
 have ad:aM (List.replicate w.length [AV.str [],.i 0,.i 0,.i 0]).flatten 0 ((w.map Wd.cs).take w.length).flatten=(w.map Wd.cs).flatten:=by
  rw[take_of_length_le (by simp),bp _ _ _ (by rw[an];exact T),drop_eq_nil_of_le (by rw[an,ct];simp)];simp
 have wn:IntKind.i64.wrap ((ps.length:Int)-1)=(ps.length:Int)-1:=av (by omega) (by omega)
 (repeat' (first|simp only[EV,seval,wn,cp]|simp only[EV,seval,wn]|(with_reducible intro d1 bo;(try(have cw:=bo;simp only[EVK]at cw;(have cp:=cw))))|(refine jx (elem:=118) (c:=w.length) (sz:=4) (bytes:=40) (zr:=[.str [],.i 0,.i 0,.i 0]) (z:=.agg #[.string .empty,.i 0,.i 0,.i 0]) rfl (by kernel_rfl) (by kernel_rfl) rfl (by omega) (by decide) (by intro τ w;simp[RepL,Rep,Value.cells];rfl) (by omega) (by omega) ?_)|(refine mJ (elem:=118) (sz:=4) (ys:=w.map Wd.cs) w.length (w.map Wd.cs).flatten (by kernel_rfl) (by kernel_rfl) rfl (if_pos rfl) (.inl ⟨rfl,rfl⟩) (by simp) T ad ?_)))
 clear T ad
 obtain⟨L,hL⟩:∃L:Nat->List Wd,L=λj=>putL w D a b E (ps.drop j) ((j*D.length:Nat):Int):=⟨_,rfl⟩
 have al:L ps.length=w:=by rw[hL];simp only[drop_length];rw[putL]
 have d2:L 0=putL w D a b E ps 0:=by rw[hL];simp
 have bm:∀j,(L j).length<=100100000:=λj=>by
  obtain⟨s',bb,hg⟩:=ka (g:=E) j (Nat.zero_le _) hG;have:=(lI w D a b E (ps.drop j) s' ((j*D.length:Nat):Int) hg bb).1;have h2:(ps.drop j).length*D.length<=100000*1000:=Nat.mul_le_mul (by rw[length_drop];omega) bx;rw[hL];simp only;omega
 have d3:∀i p,ps[i]? =some p->L i=(L (i+1)).take p++(aR a b D ((i*D.length:Nat):Int)++(L (i+1)).drop (p+E))/\p+E<=(L (i+1)).length:=λi p hp=>by
  obtain⟨hi,hp⟩:=List.getElem?_eq_some_iff.1 hp
  have hd:ps.drop i=p::ps.drop (i+1):=by rw[drop_eq_getElem_cons hi,hp]
  obtain⟨s',bb,hg⟩:=ka (g:=E) i (Nat.zero_le _) hG;have h1:=(lI w D a b E (ps.drop i) s' ((i*D.length:Nat):Int) hg bb).2 p _ hd
  have hm:((i*D.length:Nat):Int)+D.length=(((i+1)*D.length:Nat):Int):=by rw[Nat.add_mul];omega
  rw[hm]at h1;rw[hL];simp only;refine⟨?_,h1⟩;rw[hd,putL,hm]
 rw[←d2]
 refine i8 (ι:=Nat×Nat×Nat×List AV) (λq=>q.1<=ps.length/\RowsAt 4 q.2.2.2 0 (L q.1).length ((L q.1).map Wd.cs)/\q.2.2.1*4<=q.2.2.2.length/\(L q.1).length<=q.2.2.1/\q.2.2.1<=maxLen) (λq=>q.1)
  (λq=>[(1,.lst 1 (ps.map prow)),(2,.i E),(3,.lst 1 (D.map srow)),(4,.i a),(5,.i b),(14,.sc (.slice (some ⟨q.2.1,0,none⟩) (L q.1).length q.2.2.1)),(15,.i ((q.1:Int)-1))])
  (λq=>[(q.2.1,.cells 118 q.2.2.2)]) (ps.length,d1,w.length,(w.map Wd.cs).flatten) ⟨Nat.le_refl _,?_,?_,?_,?_⟩ (by simp only[al];exact a0 _ _) ?_
 ·simp only[al]
  have:=RowsAt.all (sz:=4) (rows:=w.map Wd.cs) (pad:=[]) (jn _) (n:=w.length) (by simp);simpa using this
 ·simp only[an];exact Nat.le_refl _
 ·simp only[al];exact Nat.le_refl _
 ·simp only;unfold maxLen;omega
 clear cp
 rintro⟨j,b1,cap,cs⟩ ⟨hj,hR,bs,J,bw⟩
 simp only at hj hR bs J bw ⊢
 cases j with
 |zero=>
  have e0:decide ((0:Int)<=((0:Nat):Int)-1)=false:=by decide
  have ch:=bm 0;(repeat' (first|(with_reducible (refine ae (λh=>?_) λh=>?_)<;>(try simp only[DZ]at h))|simp only[EV,seval,e0]))
  ·refine rv (SubN.nil _) (.inl ⟨?_,rfl⟩);unfold mL;rw[if_pos (by omega)]
  ·refine rv (SubN.refl _) (.inr ⟨b1,_,_,cap,cs,4,_,_,rfl,rfl,hR,J,bw,?_,rfl⟩);unfold mL;rw[if_neg (by omega)]
 |succ i=>
  obtain⟨p,hp⟩:∃p,ps[i]? =some p:=⟨ps[i]'(by omega),getElem?_eq_getElem (by omega)⟩;obtain⟨ah,Y⟩:=d3 i p hp
  have ac:(ps.map prow).getD i []=[AV.int .i64 (p:Int)]:=by simp[hp,prow]
  have e0:decide ((0:Int)<=(((i+1:Nat):Int))-1)=true:=decide_eq_true (by omega)
  have dc:(((i+1:Nat):Int))-1=(i:Int):=by omega
  have ch:=bm (i+1)
  have wg:IntKind.i64.wrap ((p:Int)+(E:Int))=((p+E:Nat):Int):=by rw[av (by omega) (by omega)];omega
  have e6:i*D.length<=100000*1000:=Nat.mul_le_mul (by omega) bx
  have wm:IntKind.i64.wrap ((i:Int)*(D.length:Int))=((i*D.length:Nat):Int):=by rw[←Int.natCast_mul,av (by omega) (by omega)]
  have w1:IntKind.i64.wrap ((i:Int)-1)=(i:Int)-1:=av (by omega) (by omega);have hM:=f223 G D a b ((i*D.length:Nat):Int) (by omega) (by omega) (by omega);obtain⟨mk,cm⟩:∃mk,aR a b D ((i*D.length:Nat):Int)=mk:=⟨_,rfl⟩
  have dl:mk.length=D.length:=by rw[←cm,bz]
  rw[cm]at ah hM;obtain⟨Lj,bk⟩:∃Lj,L (i+1)=Lj:=⟨_,rfl⟩;rw[bk]at ah Y hR J ch;simp only[bk,dc]at e0 ⊢;obtain⟨o2,aw⟩:∃o2,(if cap=p+E then 0 else 0+(p+E)*4)=o2:=⟨_,rfl⟩;have e3:Lj.length<=cap:=J
  have e8:(i:Int)<(ps.length:Int):=by omega
  have dd:o2=(p+E)*4\/p+E=Lj.length/\o2=0:=by
   subst aw;split
   ·exact .inr ⟨by omega,rfl⟩
   ·exact .inl (by omega)
  obtain⟨A,hA⟩:∃A,(Lj.map Wd.cs).take p=A:=⟨_,rfl⟩;obtain⟨B,hB⟩:∃B,(Lj.map Wd.cs).drop (p+E)=B:=⟨_,rfl⟩;have O:=hR.pre (l:=p) (by omega);have X:=hR.suf Y dd;rw[hA]at O;rw[hB]at X
  have ds:B.length<=100100000:=by rw[←hB,length_drop,length_map];omega
  have bh:=X.row
  have I:(L i).map Wd.cs=A++(mk.map Wd.cs++B):=by rw[ah,map_append,map_append,map_take,map_drop,hA,hB]
  have be:A.length=p:=O.len
  have F:(L i).length=p+(mk.length+B.length):=by
   have:=congrArg List.length I;rw[length_map,length_append,length_append,length_map,be]at this;exact this
  obtain⟨z0,Z,aa⟩:∃z0,cR Tryz.prog 118=some z0/\z0.length=4:=⟨[.str [],.i 0,.i 0,.i 0],by kernel_rfl,rfl⟩
  rcases Classical.em (mk=[])with hm0|hm0
  ·subst hm0;simp only[map_nil,nil_append,length_nil,Nat.zero_add]at I F hM;(repeat' (first|(with_reducible first|refine AI (by omega) ?_|refine ab hM ?_)|simp only[EV,seval,e0,ac,wg,wm,w1]|(with_reducible first|refine af ?_ ?_|refine ag ?_)|(refine bf (e:=118) (sz:=4) (l:=p+E) (h:=Lj.length) (m:=cap) o2 (Lj.length-(p+E)) (cap-(p+E)) (by kernel_rfl) (by kernel_rfl) rfl ⟨_,rfl⟩ rfl rfl (λh=>by cases h) Y J (Nat.le_refl _) aw rfl rfl ?_)|(refine bf (e:=118) (sz:=4) (l:=0) (h:=p) (m:=p) 0 p p (by kernel_rfl) (by kernel_rfl) rfl rfl ⟨_,rfl⟩ ⟨_,rfl⟩ (λ_=>rfl) (by omega) (by omega) (by omega) (by split<;>rfl) rfl rfl ?_)|(refine oX (e:=118) (e':=118) (sz:=4) (bytes:=40) (b:=b1) (n:=p) (cap:=p) (rows:=A) (cs:=cs) (z:=z0) (by kernel_rfl) (by kernel_rfl) (by kernel_rfl) Z aa (by decide) (by decide) rfl (if_pos rfl) O (by omega) (Nat.le_refl _) (.inl ⟨rfl,rfl⟩) (by omega) ?_)|(refine ki (e:=118) (e':=118) (sz:=4) (bytes:=40) (b:=b1) (n:=p) (cap:=p) (rows:=A) (ys:=B) (cs:=cs) (z:=z0) (by kernel_rfl) (by kernel_rfl) (by kernel_rfl) Z aa (by decide) (by decide) rfl (if_pos rfl) O (by omega) (by omega) (.inr ⟨b1,o2,_,_,118,cs,rfl,if_pos rfl,X⟩) bh (by omega) (λb' N cs' σ' g1 g2 g3 g4 g5=>?_))))
   all_goals
    refine⟨(i,b',N,cs'),⟨by simp only;omega,?_,g2,?_,g4⟩,Nat.lt_succ_self i,?_⟩
    ·simp only[I,F];exact g1
    ·simp only[F];exact g3
    ·simp only[F]
     refine Weak.sub ?_
     rcases g5 with⟨rfl,rfl⟩|⟨_,rfl⟩
     ·simp only[Store.set,if_true];exact SubN.refl _
     ·exact SubN.cons (SubN.nil _) _
  ·obtain⟨M,bn⟩:∃M,mk.map Wd.cs=M:=⟨_,rfl⟩
   have e1:M.length=mk.length:=by rw[←bn,length_map]
   have e4:1<=mk.length:=length_pos_iff.2 hm0
   have e5:mk.length<=1000:=by omega
   rw[bn]at hM I;(repeat' (first|(with_reducible first|refine AI (by omega) ?_|refine ab hM ?_)|simp only[EV,seval,e0,ac,wg,wm,w1]|(with_reducible first|refine af ?_ ?_|refine ag ?_)|(refine bf (e:=118) (sz:=4) (l:=p+E) (h:=Lj.length) (m:=cap) o2 (Lj.length-(p+E)) (cap-(p+E)) (by kernel_rfl) (by kernel_rfl) rfl ⟨_,rfl⟩ rfl rfl (λh=>by cases h) Y J (Nat.le_refl _) aw rfl rfl ?_)|(refine bf (e:=118) (sz:=4) (l:=0) (h:=p) (m:=p) 0 p p (by kernel_rfl) (by kernel_rfl) rfl rfl ⟨_,rfl⟩ ⟨_,rfl⟩ (λ_=>rfl) (by omega) (by omega) (by omega) (by split<;>rfl) rfl rfl ?_)|(refine fj (e:=118) (e':=118) (sz:=4) (bytes:=40) (b:=b1) (o:=0) (n:=p) (cap:=p) (rows:=A) (ys:=M) (cs:=cs) (z:=z0) (by kernel_rfl) (by kernel_rfl) (by kernel_rfl) Z aa (by decide) (by decide) rfl (if_pos rfl) O (by omega) (.inl ⟨rfl,rfl⟩) (by omega) (λh=>by omega) (λ_ b2 bd d0 f0 f1 f2 f3 f4=>?_))|(refine ki (e:=118) (e':=118) (sz:=4) (bytes:=40) (b:=b2) (n:=p+M.length) (cap:=bd) (rows:=A++M) (ys:=B) (cs:=(A++M).flatten++d0) (z:=z0) (by kernel_rfl) (by kernel_rfl) (by kernel_rfl) Z aa (by decide) (by decide) rfl (if_pos rfl) (RowsAt.all f3 (by rw[length_append,be])) (by rw[f4];exact Nat.le_refl _) f2 (.inr ⟨b1,o2,_,_,118,cs,rfl,(if_neg (by simpa[Store.keys]using f0)).trans (if_pos rfl),X⟩) bh (by omega) (λb' N cs' σ' g1 g2 g3 g4 g5=>?_))))
   all_goals
    have V:p+(mk.length+B.length)=p+M.length+B.length:=by omega
    rw[append_assoc]at g1
    refine⟨(i,b',N,cs'),⟨by simp only;omega,?_,g2,?_,g4⟩,Nat.lt_succ_self i,?_⟩
    ·simp only[I,F,V];exact g1
    ·simp only[F,V];exact g3
    ·simp only[F,V]
     refine Weak.sub ?_
     rcases g5 with⟨rfl,rfl⟩|⟨_,rfl⟩
     ·simp only[Store.set,if_true];exact SubN.cons (SubN.nil _) _
     ·exact SubN.cons (SubN.nil _) _
end
end Go.Av

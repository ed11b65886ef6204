/-
  ENACT, M26: what is done to a unit: kids cut out and put in, words, heading, label.
-/
import Derived.Test.YtjdccoplpljmlaaGreatDoorVXM23toXM25
import Derived.Test.YtjdccoplpljmlaaGreatDoorVXM18toXM14
import Derived.Test.YtjdccoplpljmlaaGreatDoorVXM15toXM17
namespace Go.Av
open Go Go.RowKit Go.Proofs List
set_option linter.unusedSimpArgs false
set_option linter.unusedVariables false
theorem SubN.ins1 {t a b c:Nat×AObj} {κ:Store}:SubN ((κ++[t])++[a,b,c]) (t::a::b::c::κ):=by
 have e:(κ++[t])++[a,b,c]=κ++[t,a,b,c]:=by simp
 rw[e]
 exact SubN.perm (perm_append_comm (l₁:=κ) (l₂:=[t,a,b,c]))
theorem SubN.ins2 {t a b c:Nat×AObj} {κ:Store}:SubN (a::b::c::κ) ((κ++[t])++[a,b,c]):=by
 have e:(κ++[t])++[a,b,c]=κ++[t,a,b,c]:=by simp
 rw[e]
 exact SubN.trans (SubN.tail (SubN.refl _) t) (SubN.perm (perm_append_comm (l₁:=[t,a,b,c]) (l₂:=κ)))
section
variable (G:Glob)
theorem d333 (F j:Nat) (x:U) (hj:j<x.kids.length) (hl:x.kids.length<1000000):
  jl G (.func (.func 333) #[] #[.pointer (some ⟨F,0,none⟩)]) (λy=>{y with kids:=cx y.kids j}) [(F,.cells 3 [.int .i64 j])] x:=by
 intro b v κ Y J
 refine⟨_,_,_,rfl,?_⟩
 have N:=f334 G _ v κ Y j (by rw[length_map];exact hj) (by rw[length_map];exact hl)
 have hv:=Y
 obtain⟨V,cap,rfl,_⟩:=hv
 have Z:¬b=F:=by simp[Store.keys]at J;exact J.1.1
 have q2:¬F=b:=λe=>Z e.symm
 have hw:IntKind.i64.wrap ((j:Int)+1)=((j+1:Nat):Int):=by rw[av (by omega) (by omega)];omega
 rw[length_map]at N
 have O:(x.kids.map U.cs).take j++(x.kids.map U.cs).drop (j+1)=(cx x.kids j).map U.cs:=by unfold cx;rw[map_append,map_take,map_drop]
 rw[O]at N
 show aj G Tryz.prog 333 [.sc (.pointer (some ⟨b,0,none⟩)),.sc (.pointer (some ⟨F,0,none⟩))] _ _
 simp only[U.csv]
 refine aj.w c333 ?_
 unfold s333 r333
 (repeat' (first|simp only[EVz,seval,↓reduceIte,EV6,EV7,Z,q2,hw]|(with_reducible first|refine ae ?_ ?_|refine af ?_)|(refine bC κ [(b,_),(F,_)] N.v (aA.rfl' _) (SubN.perm (perm_append_comm (l₁:=κ) (l₂:=[_,_]))) (λr1 M hr X=>?_))|(refine⟨_,SubN.perm (perm_append_comm (l₁:=[_,_]) (l₂:=M)),?_⟩)|(obtain⟨E,I,rfl,T⟩:=hr)))
 all_goals exact RET.mk' (SubN.refl _) ⟨_,M,⟨E,I,by rw[length_map],T⟩,rfl⟩
theorem d281 (E:Nat) (w:List Wd) (x:U):
  jl G (.func (.func 281) #[] #[.pointer (some ⟨E,0,none⟩)]) (λy=>{y with words:=w}) [(E,.cells 26 [.lst 4 (w.map Wd.cs)])] x:=by
 intro b v κ J F
 have I:¬b=E:=by simp[Store.keys]at F;exact F.1.1
 have M:¬E=b:=λe=>I e.symm
 refine⟨_,_,_,rfl,?_⟩
 show aj G Tryz.prog 281 [.sc (.pointer (some ⟨b,0,none⟩)),.sc (.pointer (some ⟨E,0,none⟩))] _ _
 simp only[U.csv]
 refine aj.w c281 ?_
 unfold s281 r281
 (repeat' (simp only[EVz,seval,↓reduceIte,EV6,EV7,I,M]))
 all_goals exact RET.mk' (SubN.refl _) ⟨_,κ,J,rfl⟩
theorem d283 (E:Nat) (w:List Wd) (x:U):
  jl G (.func (.func 283) #[] #[.pointer (some ⟨E,0,none⟩)]) (λy=>{y with words:=w}) [(E,.cells 26 [.lst 4 (w.map Wd.cs)])] x:=by
 intro b v κ J F
 have I:¬b=E:=by simp[Store.keys]at F;exact F.1.1
 have M:¬E=b:=λe=>I e.symm
 refine⟨_,_,_,rfl,?_⟩
 show aj G Tryz.prog 283 [.sc (.pointer (some ⟨b,0,none⟩)),.sc (.pointer (some ⟨E,0,none⟩))] _ _
 simp only[U.csv]
 refine aj.w c283 ?_
 unfold s283 r283
 (repeat' (simp only[EVz,seval,↓reduceIte,EV6,EV7,I,M]))
 all_goals exact RET.mk' (SubN.refl _) ⟨_,κ,J,rfl⟩
theorem d285 (E:Nat) (w:List Wd) (x:U):
  jl G (.func (.func 285) #[] #[.pointer (some ⟨E,0,none⟩)]) (λy=>{y with head:=w}) [(E,.cells 26 [.lst 4 (w.map Wd.cs)])] x:=by
 intro b v κ J F
 have I:¬b=E:=by simp[Store.keys]at F;exact F.1.1
 have M:¬E=b:=λe=>I e.symm
 refine⟨_,_,_,rfl,?_⟩
 show aj G Tryz.prog 285 [.sc (.pointer (some ⟨b,0,none⟩)),.sc (.pointer (some ⟨E,0,none⟩))] _ _
 simp only[U.csv]
 refine aj.w c285 ?_
 unfold s285 r285
 (repeat' (simp only[EVz,seval,↓reduceIte,EV6,EV7,I,M]))
 all_goals exact RET.mk' (SubN.refl _) ⟨_,κ,J,rfl⟩
theorem d287 (E:Nat) (d:Dd) (x:U):
  jl G (.func (.func 287) #[] #[.pointer (some ⟨E,0,none⟩)]) (λy=>{y with label:=d.it.label}) [(E,.cells 159 d.cs)] x:=by
 intro b v κ J F
 have I:¬b=E:=by simp[Store.keys]at F;exact F.1.1
 have M:¬E=b:=λe=>I e.symm
 refine⟨_,_,_,rfl,?_⟩
 show aj G Tryz.prog 287 [.sc (.pointer (some ⟨b,0,none⟩)),.sc (.pointer (some ⟨E,0,none⟩))] _ _
 simp only[U.csv]
 unfold Dd.cs
 rw[Itm.cs_eq]
 refine aj.w c287 ?_
 unfold s287 r287
 (repeat' (simp only[EVz,seval,↓reduceIte,EV6,EV7,I,M]))
 all_goals exact RET.mk' (SubN.refl _) ⟨_,κ,J,rfl⟩
theorem d277 (F I j:Nat) (y x:U) (hj:j<=x.kids.length) (hl:x.kids.length<1000000):
  jl G (.func (.func 277) #[] #[.pointer (some ⟨F,0,none⟩),.pointer (some ⟨I,0,none⟩)]) (λz=>{z with kids:=bL z.kids j y}) [(F,.cells 3 [.int .i64 j]),(I,.cells 29 y.cs)] x:=by
 intro b v κ ho E
 have hv:=ho
 obtain⟨ah,cap,rfl,_⟩:=hv
 rw[length_map]at ho
 have q:¬b=F/\¬b=I/\¬F=I:=by simp[Store.keys]at E;exact⟨E.1.1,E.1.2.1,E.2.1.1⟩
 obtain⟨q1,q2,q3⟩:=q
 have V:¬F=b:=λe=>q1 e.symm
 have X:¬I=b:=λe=>q2 e.symm
 have Y:¬I=F:=λe=>q3 e.symm
 have hC:=λbo=>f278 G _ _ κ ho j (by rw[length_map];exact hj) (by rw[length_map];exact hl) bo y.cs (U.cs_len y)
 have Z:d8 (x.kids.map U.cs) j y.cs=(bL x.kids j y).map U.cs:=by unfold d8 bL;rw[map_append,map_cons,map_take,map_drop]
 rw[Z]at hC
 refine⟨_,_,_,rfl,?_⟩
 show aj G Tryz.prog 277 [.sc (.pointer (some ⟨b,0,none⟩)),.sc (.pointer (some ⟨F,0,none⟩)),.sc (.pointer (some ⟨I,0,none⟩))] _ _
 simp only[U.csv,length_map]
 refine aj.w c277 ?_
 unfold s277 r277
 (repeat' (first|simp only[EVz,seval,↓reduceIte,EV6,EV7,q1,q2,q3,V,X,Y,ac]|simp only[EVz,seval,↓reduceIte,EV6,EV7,q1,q2,q3,V,X,Y]|(with_reducible intro M O;(try(have T:=O;simp only[EVK]at T;(have ac:=T))))|(with_reducible first|refine ae ?_ ?_|refine af ?_)|(refine⟨[y.cs],rfl,(by simp[U.cs_len]),(by simp),?_⟩)|(refine bC (κ++[(M,_)]) [(b,_),(F,_),(I,_)] (hC M).v (aA.rfl' _) SubN.ins1 (λr1 an hr al=>?_))|(obtain⟨ag,⟨J,N,rfl,ad⟩,rfl⟩:=hr)|(refine⟨_,SubN.ins2,?_⟩)))
 all_goals exact RET.mk' (SubN.refl _) ⟨_,ag,⟨J,N,by rw[length_map],ad⟩,rfl⟩
theorem d288 (F I j:Nat) (y x:U) (hj:j<=x.kids.length) (hl:x.kids.length<1000000):
  jl G (.func (.func 288) #[] #[.pointer (some ⟨F,0,none⟩),.pointer (some ⟨I,0,none⟩)]) (λz=>{z with kids:=bL z.kids j y}) [(F,.cells 3 [.int .i64 j]),(I,.cells 29 y.cs)] x:=by
 intro b v κ ho E
 have hv:=ho
 obtain⟨ah,cap,rfl,_⟩:=hv
 rw[length_map]at ho
 have q:¬b=F/\¬b=I/\¬F=I:=by simp[Store.keys]at E;exact⟨E.1.1,E.1.2.1,E.2.1.1⟩
 obtain⟨q1,q2,q3⟩:=q
 have V:¬F=b:=λe=>q1 e.symm
 have X:¬I=b:=λe=>q2 e.symm
 have Y:¬I=F:=λe=>q3 e.symm
 have hC:=λbo=>f278 G _ _ κ ho j (by rw[length_map];exact hj) (by rw[length_map];exact hl) bo y.cs (U.cs_len y)
 have Z:d8 (x.kids.map U.cs) j y.cs=(bL x.kids j y).map U.cs:=by unfold d8 bL;rw[map_append,map_cons,map_take,map_drop]
 rw[Z]at hC
 refine⟨_,_,_,rfl,?_⟩
 show aj G Tryz.prog 288 [.sc (.pointer (some ⟨b,0,none⟩)),.sc (.pointer (some ⟨F,0,none⟩)),.sc (.pointer (some ⟨I,0,none⟩))] _ _
 simp only[U.csv,length_map]
 refine aj.w c288 ?_
 unfold s288 r288
 (repeat' (first|simp only[EVz,seval,↓reduceIte,EV6,EV7,q1,q2,q3,V,X,Y,ac]|simp only[EVz,seval,↓reduceIte,EV6,EV7,q1,q2,q3,V,X,Y]|(with_reducible intro M O;(try(have T:=O;simp only[EVK]at T;(have ac:=T))))|(with_reducible first|refine ae ?_ ?_|refine af ?_)|(refine⟨[y.cs],rfl,(by simp[U.cs_len]),(by simp),?_⟩)|(refine bC (κ++[(M,_)]) [(b,_),(F,_),(I,_)] (hC M).v (aA.rfl' _) SubN.ins1 (λr1 an hr al=>?_))|(obtain⟨ag,⟨J,N,rfl,ad⟩,rfl⟩:=hr)|(refine⟨_,SubN.ins2,?_⟩)))
 all_goals exact RET.mk' (SubN.refl _) ⟨_,ag,⟨J,N,by rw[length_map],ad⟩,rfl⟩
end
theorem k9 (w:List Wd) (E:List (List UInt8)) (a b:Int) (F:Nat):∀(ps:List Nat) (s:Nat) (m:Int),Gaps w.length F s ps->s<=w.length->(putL w E a b F ps m).length<=w.length+ps.length*E.length/\∀p r,ps=p::r->p+F<=(putL w E a b F r (m+E.length)).length
 |[],s,m,_,_=>by rw[putL];simp
 |p::ps,s,m,⟨h1,h2,h3⟩,hs=>by
  have ih:=k9 w E a b F ps (p+F) (m+E.length) h3 (by omega)
  have e:=i6 w E a b F ps (p+F) (m+E.length) h3
  have I:p+F<=(putL w E a b F ps (m+E.length)).length:=by
   rw[e,length_append,length_take];omega
  refine⟨?_,?_⟩
  ·rw[putL,length_append,length_append,length_take,length_drop,cF,length_cons,Nat.add_mul]
   have:=ih.1
   omega
  ·rintro q r J
   injection J with hq1 hq2
   subst hq1 hq2
   exact I
theorem iN {n g:Nat}:∀{ps:List Nat} {s:Nat} (j:Nat),s<=n->Gaps n g s ps->∃E,E<=n/\Gaps n g E (ps.drop j)
 |[],s,j,hs,_=>⟨s,hs,by rw[drop_nil];trivial⟩
 |p::ps,s,0,hs,h=>⟨s,hs,h⟩
 |p::ps,s,j+1,hs,⟨h1,h2,h3⟩=>iN (ps:=ps) j h2 h3
def ly (q:List Wd):AV:=if 256<q.length then .tup [.nil,.int .i64 6]else .tup [.lst 4 (q.map Wd.cs),.int .i64 0]
section
variable (G:Glob)
set_option maxHeartbeats 2000000 in
theorem f336 (w:List Wd) (ps:List Nat) (F:Nat) (E:List (List UInt8)) (a b:Int) (hw:w.length<=100000) (e6:ps.length<=100000) (ch:E.length<=1000) (e1:F<=100000) (hG:Gaps w.length F 0 ps):
  Pure G Tryz.prog 336 [.lst 4 (w.map Wd.cs),.lst 1 (ps.map prow),.int .i64 F,.lst 1 (E.map srow),.int .i64 a,.int .i64 b] (ly (putL w E a b F ps 0)):=by
 refine aj.freezeT ?_
 refine aj.w c336 ?_
 unfold s336 r336
 have V:0+w.length*4<=(List.replicate w.length [AV.str [],.int .i64 0,.int .i64 0,.int .i64 0]).flatten.length:=by rw[bW];simp
 have aw:(w.map Wd.cs).flatten.length=w.length*4:=by rw[ap _ (iC _),length_map]
 have ah:splice (List.replicate w.length [AV.str [],.int .i64 0,.int .i64 0,.int .i64 0]).flatten 0 ((w.map Wd.cs).take w.length).flatten=(w.map Wd.cs).flatten:=by
  rw[take_of_length_le (by simp),aR _ _ _ (by rw[aw];exact V),drop_eq_nil_of_le (by rw[aw,bW];simp)]
  simp
 have wn:IntKind.i64.wrap ((ps.length:Int)-1)=(ps.length:Int)-1:=av (by omega) (by omega)
 (repeat' (first|simp only[EVz,seval,↓reduceIte,EV6,EV7,wn,cp]|simp only[EVz,seval,↓reduceIte,EV6,EV7,wn]|(with_reducible intro d1 bp;(try(have cw:=bp;simp only[EVK]at cw;(have cp:=cw))))|(refine iI (elem:=88) (c:=w.length) (sz:=4) (bytes:=40) (zr:=[.str [],.int .i64 0,.int .i64 0,.int .i64 0]) (z:=.agg #[.string .empty,.int .i64 0,.int .i64 0,.int .i64 0]) rfl (by kernel_rfl) (by kernel_rfl) rfl (by omega) (by decide) (by intro τ w;simp[RepL,Rep,Value.cells];rfl) (by omega) (by omega) ?_)|(refine li (elem:=88) (sz:=4) (ys:=w.map Wd.cs) w.length (w.map Wd.cs).flatten (by kernel_rfl) (by kernel_rfl) rfl (if_pos rfl) (.inl ⟨rfl,rfl⟩) (by simp) V ah ?_)))
 clear V ah
 obtain⟨L,hL⟩:∃L:Nat->List Wd,L=λj=>putL w E a b F (ps.drop j) ((j*E.length:Nat):Int):=⟨_,rfl⟩
 have an:L ps.length=w:=by rw[hL];simp only[drop_length];rw[putL]
 have d2:L 0=putL w E a b F ps 0:=by rw[hL];simp
 have bn:∀j,(L j).length<=100100000:=λj=>by
  obtain⟨s',bd,hg⟩:=iN (g:=F) j (Nat.zero_le _) hG
  have:=(k9 w E a b F (ps.drop j) s' ((j*E.length:Nat):Int) hg bd).1
  have h2:(ps.drop j).length*E.length<=100000*1000:=Nat.mul_le_mul (by rw[length_drop];omega) ch
  rw[hL]
  simp only
  omega
 have d3:∀i p,ps[i]? =some p->L i=(L (i+1)).take p++(aW a b E ((i*E.length:Nat):Int)++(L (i+1)).drop (p+F))/\p+F<=(L (i+1)).length:=λi p hp=>by
  obtain⟨hi,hp⟩:=List.getElem?_eq_some_iff.1 hp
  have hd:ps.drop i=p::ps.drop (i+1):=by rw[drop_eq_getElem_cons hi,hp]
  obtain⟨s',bd,hg⟩:=iN (g:=F) i (Nat.zero_le _) hG
  have h1:=(k9 w E a b F (ps.drop i) s' ((i*E.length:Nat):Int) hg bd).2 p _ hd
  have hm:((i*E.length:Nat):Int)+E.length=(((i+1)*E.length:Nat):Int):=by rw[Nat.add_mul];omega
  rw[hm]at h1
  rw[hL]
  simp only
  refine⟨?_,h1⟩
  rw[hd,putL,hm]
 rw[←d2]
 refine bv (ι:=Nat×Nat×Nat×List AV) (λq=>q.1<=ps.length/\RowsAt 4 q.2.2.2 0 (L q.1).length ((L q.1).map Wd.cs)/\q.2.2.1*4<=q.2.2.2.length/\(L q.1).length<=q.2.2.1/\q.2.2.1<=maxLen) (λq=>q.1)
  (λq=>[(1,.lst 1 (ps.map prow)),(2,.int .i64 F),(3,.lst 1 (E.map srow)),(4,.int .i64 a),(5,.int .i64 b),(14,.sc (.slice (some ⟨q.2.1,0,none⟩) (L q.1).length q.2.2.1)),(15,.int .i64 ((q.1:Int)-1))])
  (λq=>[(q.2.1,.cells 88 q.2.2.2)]) (ps.length,d1,w.length,(w.map Wd.cs).flatten) ⟨Nat.le_refl _,?_,?_,?_,?_⟩ (by simp only[an];exact Weak.rfl' _ _) ?_
 ·simp only[an]
  have:=RowsAt.all (sz:=4) (rows:=w.map Wd.cs) (pad:=[]) (iC _) (n:=w.length) (by simp)
  simpa using this
 ·simp only[aw];exact Nat.le_refl _
 ·simp only[an];exact Nat.le_refl _
 ·simp only;unfold maxLen;omega
 clear cp
 rintro⟨j,b1,cap,cs⟩ ⟨hj,hR,bw,N,bx⟩
 simp only at hj hR bw N bx ⊢
 cases j with
 |zero=>
  have e0:decide ((0:Int)<=((0:Nat):Int)-1)=false:=by decide
  have cl:=bn 0
  (repeat' (first|(with_reducible (refine ab (λh=>?_) (λh=>?_))<;>(try simp only[DZ]at h))|simp only[EVz,seval,↓reduceIte,EV6,EV7,e0]))
  ·refine RET.mk' (SubN.nil _) (.inl ⟨?_,rfl⟩)
   unfold ly
   rw[if_pos (by omega)]
  ·refine RET.mk' (SubN.refl _) (.inr ⟨b1,_,_,cap,cs,4,_,_,rfl,rfl,hR,N,bx,?_,rfl⟩)
   unfold ly
   rw[if_neg (by omega)]
 |succ i=>
  obtain⟨p,hp⟩:∃p,ps[i]? =some p:=⟨ps[i]'(by omega),getElem?_eq_getElem (by omega)⟩
  obtain⟨al,Z⟩:=d3 i p hp
  have ag:(ps.map prow).getD i []=[AV.int .i64 (p:Int)]:=by simp[hp,prow]
  have e0:decide ((0:Int)<=(((i+1:Nat):Int))-1)=true:=decide_eq_true (by omega)
  have d4:(((i+1:Nat):Int))-1=(i:Int):=by omega
  have cl:=bn (i+1)
  have wg:IntKind.i64.wrap ((p:Int)+(F:Int))=((p+F:Nat):Int):=by rw[av (by omega) (by omega)];omega
  have e5:i*E.length<=100000*1000:=Nat.mul_le_mul (by omega) ch
  have wm:IntKind.i64.wrap ((i:Int)*(E.length:Int))=((i*E.length:Nat):Int):=by rw[←Int.natCast_mul,av (by omega) (by omega)]
  have w1:IntKind.i64.wrap ((i:Int)-1)=(i:Int)-1:=av (by omega) (by omega)
  have hM:=f284 G E a b ((i*E.length:Nat):Int) (by omega) (by omega) (by omega)
  obtain⟨mk,cm⟩:∃mk,aW a b E ((i*E.length:Nat):Int)=mk:=⟨_,rfl⟩
  have dd:mk.length=E.length:=by rw[←cm,cF]
  rw[cm]at al hM
  obtain⟨Lj,bm⟩:∃Lj,L (i+1)=Lj:=⟨_,rfl⟩
  rw[bm]at al Z hR N cl
  simp only[bm,d4]at e0 ⊢
  obtain⟨o2,bb⟩:∃o2,(if cap=p+F then 0 else 0+(p+F)*4)=o2:=⟨_,rfl⟩
  have e2:Lj.length<=cap:=N
  have e7:(i:Int)<(ps.length:Int):=by omega
  have dc:o2=(p+F)*4\/p+F=Lj.length/\o2=0:=by
   subst bb
   split
   ·exact .inr ⟨by omega,rfl⟩
   ·exact .inl (by omega)
  obtain⟨A,hA⟩:∃A,(Lj.map Wd.cs).take p=A:=⟨_,rfl⟩
  obtain⟨B,hB⟩:∃B,(Lj.map Wd.cs).drop (p+F)=B:=⟨_,rfl⟩
  have T:=hR.pre (l:=p) (by omega)
  have Y:=hR.suf Z dc
  rw[hA]at T
  rw[hB]at Y
  have dl:B.length<=100100000:=by rw[←hB,length_drop,length_map];omega
  have bk:=Y.row
  have J:(L i).map Wd.cs=A++(mk.map Wd.cs++B):=by rw[al,map_append,map_append,map_take,map_drop,hA,hB]
  have bh:A.length=p:=T.len
  have I:(L i).length=p+(mk.length+B.length):=by
   have:=congrArg List.length J
   rw[length_map,length_append,length_append,length_map,bh]at this
   exact this
  obtain⟨z0,ac,ad⟩:∃z0,cu Tryz.prog 88=some z0/\z0.length=4:=⟨[.str [],.int .i64 0,.int .i64 0,.int .i64 0],by kernel_rfl,rfl⟩
  rcases Classical.em (mk=[])with hm0|hm0
  ·subst hm0
   simp only[map_nil,nil_append,length_nil,Nat.zero_add]at J I hM
   (repeat' (first|(with_reducible first|refine AI (by omega) ?_|refine aa hM ?_)|simp only[EVz,seval,↓reduceIte,EV6,EV7,e0,ag,wg,wm,w1]|(with_reducible first|refine ae ?_ ?_|refine af ?_)|(refine aS (e:=88) (sz:=4) (l:=p+F) (h:=Lj.length) (m:=cap) o2 (Lj.length-(p+F)) (cap-(p+F)) (by kernel_rfl) (by kernel_rfl) rfl ⟨_,rfl⟩ rfl rfl (λh=>by cases h) Z N (Nat.le_refl _) bb rfl rfl ?_)|(refine aS (e:=88) (sz:=4) (l:=0) (h:=p) (m:=p) 0 p p (by kernel_rfl) (by kernel_rfl) rfl rfl ⟨_,rfl⟩ ⟨_,rfl⟩ (λ_=>rfl) (by omega) (by omega) (by omega) (by split<;>rfl) rfl rfl ?_)|(refine mT (e:=88) (e':=88) (sz:=4) (bytes:=40) (b:=b1) (n:=p) (cap:=p) (rows:=A) (cs:=cs) (z:=z0) (by kernel_rfl) (by kernel_rfl) (by kernel_rfl) ac ad (by decide) (by decide) rfl (if_pos rfl) T (by omega) (Nat.le_refl _) (.inl ⟨rfl,rfl⟩) (by omega) ?_)|(refine jc (e:=88) (e':=88) (sz:=4) (bytes:=40) (b:=b1) (n:=p) (cap:=p) (rows:=A) (ys:=B) (cs:=cs) (z:=z0) (by kernel_rfl) (by kernel_rfl) (by kernel_rfl) ac ad (by decide) (by decide) rfl (if_pos rfl) T (by omega) (by omega) (.inr ⟨b1,o2,_,_,88,cs,rfl,if_pos rfl,Y⟩) bk (by omega) (λb' O cs' σ' g1 g2 g3 g4 g5=>?_))))
   all_goals
    refine⟨(i,b',O,cs'),⟨by simp only;omega,?_,g2,?_,g4⟩,Nat.lt_succ_self i,?_⟩
    ·simp only[J,I];exact g1
    ·simp only[I];exact g3
    ·simp only[I]
     refine Weak.sub ?_
     rcases g5 with⟨rfl,rfl⟩|⟨_,rfl⟩
     ·simp only[Store.set,if_true]
      exact SubN.refl _
     ·exact SubN.cons (SubN.nil _) _
  ·obtain⟨M,bo⟩:∃M,mk.map Wd.cs=M:=⟨_,rfl⟩
   have ds:M.length=mk.length:=by rw[←bo,length_map]
   have e3:1<=mk.length:=length_pos_iff.2 hm0
   have e4:mk.length<=1000:=by omega
   rw[bo]at hM J
   (repeat' (first|(with_reducible first|refine AI (by omega) ?_|refine aa hM ?_)|simp only[EVz,seval,↓reduceIte,EV6,EV7,e0,ag,wg,wm,w1]|(with_reducible first|refine ae ?_ ?_|refine af ?_)|(refine aS (e:=88) (sz:=4) (l:=p+F) (h:=Lj.length) (m:=cap) o2 (Lj.length-(p+F)) (cap-(p+F)) (by kernel_rfl) (by kernel_rfl) rfl ⟨_,rfl⟩ rfl rfl (λh=>by cases h) Z N (Nat.le_refl _) bb rfl rfl ?_)|(refine aS (e:=88) (sz:=4) (l:=0) (h:=p) (m:=p) 0 p p (by kernel_rfl) (by kernel_rfl) rfl rfl ⟨_,rfl⟩ ⟨_,rfl⟩ (λ_=>rfl) (by omega) (by omega) (by omega) (by split<;>rfl) rfl rfl ?_)|(refine ey (e:=88) (e':=88) (sz:=4) (bytes:=40) (b:=b1) (o:=0) (n:=p) (cap:=p) (rows:=A) (ys:=M) (cs:=cs) (z:=z0) (by kernel_rfl) (by kernel_rfl) (by kernel_rfl) ac ad (by decide) (by decide) rfl (if_pos rfl) T (by omega) (.inl ⟨rfl,rfl⟩) (by omega) (λh=>by omega) (λ_ b2 be d0 f0 f1 f2 f3 f4=>?_))|(refine jc (e:=88) (e':=88) (sz:=4) (bytes:=40) (b:=b2) (n:=p+M.length) (cap:=be) (rows:=A++M) (ys:=B) (cs:=(A++M).flatten++d0) (z:=z0) (by kernel_rfl) (by kernel_rfl) (by kernel_rfl) ac ad (by decide) (by decide) rfl (if_pos rfl) (RowsAt.all f3 (by rw[length_append,bh])) (by rw[f4];exact Nat.le_refl _) f2 (.inr ⟨b1,o2,_,_,88,cs,rfl,(if_neg (by simpa[Store.keys]using f0)).trans (if_pos rfl),Y⟩) bk (by omega) (λb' O cs' σ' g1 g2 g3 g4 g5=>?_))))
   all_goals
    have X:p+(mk.length+B.length)=p+M.length+B.length:=by omega
    rw[append_assoc]at g1
    refine⟨(i,b',O,cs'),⟨by simp only;omega,?_,g2,?_,g4⟩,Nat.lt_succ_self i,?_⟩
    ·simp only[J,I,X];exact g1
    ·simp only[I,X];exact g3
    ·simp only[I,X]
     refine Weak.sub ?_
     rcases g5 with⟨rfl,rfl⟩|⟨_,rfl⟩
     ·simp only[Store.set,if_true]
      exact SubN.cons (SubN.nil _) _
     ·exact SubN.cons (SubN.nil _) _
end
theorem nJ (w:List Wd) (E:List (List UInt8)) (a b:Int) (F:Nat) (ps:List Nat) (h:Gaps w.length F 0 ps):putL w E a b F ps 0=fz w E a b F 0 ps 0:=by
 rw[i6 w E a b F ps 0 0 h];simp
theorem editE_two (w:List Wd) (x:Itm) (a b:Int) (F:x.kind=2) (E:x.old≠[]):bJ w x a b=if cB (occs w x.old) x.nth=[]then ([],4)else if 256<(putL w x.new a b x.old.length (cB (occs w x.old) x.nth) 0).length then ([],6)else (putL w x.new a b x.old.length (cB (occs w x.old) x.nth) 0,0):=by
 unfold bJ
 rw[if_neg (by rintro⟨h,_⟩;omega),if_neg (show ¬x.kind=3 by omega),nJ _ _ _ _ _ _ (eC (gB E))]
theorem mY (w:List Wd) (x:Itm) (a b:Int) (F:x.kind=3) (E:x.old≠[]):bJ w x a b=if cB (occs w x.old) x.nth=[]then ([],4)else if 256<(putL w x.new a b 0 ((cB (occs w x.old) x.nth).map (· +x.old.length)) 0).length then ([],6)else (putL w x.new a b 0 ((cB (occs w x.old) x.nth).map (· +x.old.length)) 0,0):=by
 unfold bJ
 rw[if_neg (by rintro⟨_,h⟩;exact E h),if_pos F,nJ _ _ _ _ _ _ (ia (eC (gB E)))]
theorem oR (w:List Wd) (x:Itm) (a b:Int) (E:x.kind=3) (F:x.old=[]):bJ w x a b=if 256<(putL w x.new a b 0 [0] 0).length then ([],6)else (putL w x.new a b 0 [0] 0,0):=by
 unfold bJ
 have e:putL w x.new a b 0 [0] 0=aW a b x.new 0++w:=by rw[putL,putL];simp
 rw[if_pos ⟨E,F⟩,e]
section
variable (G:Glob)
theorem f280 (w:List Wd) (x:Itm) (a b:Int) (hw:w.length<=256) (hk:x.kind=2) (M:x.old≠[]) (ad:x.old.length<=256) (ac:x.new.length<=256) (hn:0<=x.nth/\x.nth<=256):
  Pure G Tryz.prog 280 [.lst 4 (w.map Wd.cs),.lst 1 (x.old.map srow),.lst 1 (x.new.map srow),.int .i64 x.nth,.int .i64 a,.int .i64 b] (iO (bJ w x a b)):=by
 have F:=f335 G w x.old x.nth (by omega) (by omega) M hn.1 (by omega)
 have V:=eC (nth:=x.nth) (gB (w:=w) M)
 have J:1<=x.old.length:=length_pos_iff.2 M
 have T:=gL J (Nat.zero_le _) V
 rw[editE_two w x a b hk M]
 obtain⟨ps,Y⟩:∃ps,cB (occs w x.old) x.nth=ps:=⟨_,rfl⟩
 rw[Y]at F V T ⊢
 have I:=f336 G w ps x.old.length x.new a b (by omega) (by omega) (by omega) (by omega) V
 have N:decide ((x.old.length:Int)=0)=false:=decide_eq_false (by omega)
 have O:decide (x.nth<0)=false:=decide_eq_false (by omega)
 refine Pure.w c280 λR E=>?_
 unfold s280 r280
 unfold iO at E
 rcases Classical.em (ps=[])with h0|h0
 ·subst h0
  rw[if_pos rfl]at E
  simp only[map_nil]at F
  (repeat' (first|(with_reducible refine aa F ?_)|simp only[EVz,seval,↓reduceIte,EV6,EV7,N,O]))
  all_goals exact E _ _ (Or.inr ⟨.inr rfl,.inl rfl,trivial⟩)
 ·rw[if_neg h0]at E
  have h1:1<=ps.length:=length_pos_iff.2 h0
  have Z:decide ((ps.length:Int)=0)=false:=decide_eq_false (by omega)
  have X:(ps.map λn:Nat=>[AV.int .i64 (n:Int)])=ps.map prow:=rfl
  rw[X]at F
  unfold ly at I
  generalize putL w x.new a b x.old.length ps 0=q at*
  rcases Classical.em (256<q.length)with h2|h2
  ·rw[if_pos h2]at E I
   (repeat' (first|(with_reducible first|refine aa F ?_|refine aa I ?_)|simp only[EVz,seval,↓reduceIte,EV6,EV7,N,O,Z]))
   all_goals exact E _ _ (Or.inr ⟨.inr rfl,.inl rfl,trivial⟩)
  ·rw[if_neg h2]at E I
   (repeat' (first|(with_reducible first|refine aa F ?_|refine aa I ?_)|simp only[EVz,seval,↓reduceIte,EV6,EV7,N,O,Z]))
   all_goals exact E _ _ (Or.inl (Or.inl rfl))
set_option maxHeartbeats 2000000 in
theorem f282 (w:List Wd) (x:Itm) (a b:Int) (hw:w.length<=256) (hk:x.kind=3) (d2:x.old.length<=256) (d1:x.new.length<=256) (cw:1<=x.new.length) (hn:0<=x.nth/\x.nth<=256) (ah:x.old=[]->x.nth=0):
  Pure G Tryz.prog 282 [.lst 4 (w.map Wd.cs),.lst 1 (x.old.map srow),.lst 1 (x.new.map srow),.int .i64 x.nth,.int .i64 a,.int .i64 b] (iO (bJ w x a b)):=by
 have e2:decide (x.nth<0)=false:=decide_eq_false (by omega)
 have e4:decide ((x.new.length:Int)=0)=false:=decide_eq_false (by omega)
 refine Pure.w c282 λR E=>?_
 unfold s282 r282
 unfold iO at E
 rcases Classical.em (x.old=[])with ho|ho
 ·have N:=f336 G w [0] 0 x.new a b (by omega) (by simp) (by omega) (by omega) ⟨Nat.le_refl _,by omega,trivial⟩
  have e5:decide (x.nth=0)=true:=decide_eq_true (ah ho)
  have e6:decide (x.nth≠0)=false:=decide_eq_false (by rw[ah ho];simp)
  have Z:decide ((x.old.length:Int)=0)=true:=decide_eq_true (by rw[ho];rfl)
  rw[oR w x a b hk ho]at E
  unfold ly at N
  generalize putL w x.new a b 0 [0] 0=q at*
  rcases Classical.em (256<q.length)with F|F
  ·rw[if_pos F]at E N
   (repeat' (first|simp only[EVz,seval,↓reduceIte,EV6,EV7,e2,e4,e5,e6,Z,ac]|simp only[EVz,seval,↓reduceIte,EV6,EV7,e2,e4,e5,e6,Z]|(with_reducible intro bb O;(try(have T:=O;simp only[EVK]at T;(have ac:=T))))|(refine⟨[prow 0],rfl,(by simp[prow]),rfl,?_⟩)|(refine aI N ⟨.inl (.inl rfl),.inl (.inr ⟨rfl,rfl⟩),.inl (.inl rfl),.inl (.inl rfl),.inl (.inl rfl),.inl (.inl rfl),trivial⟩ ?_)))
   all_goals exact E _ _ (Or.inr ⟨.inr rfl,.inl rfl,trivial⟩)
  ·rw[if_neg F]at E N
   (repeat' (first|simp only[EVz,seval,↓reduceIte,EV6,EV7,e2,e4,e5,e6,Z,ac]|simp only[EVz,seval,↓reduceIte,EV6,EV7,e2,e4,e5,e6,Z]|(with_reducible intro bb O;(try(have T:=O;simp only[EVK]at T;(have ac:=T))))|(refine⟨[prow 0],rfl,(by simp[prow]),rfl,?_⟩)|(refine aI N ⟨.inl (.inl rfl),.inl (.inr ⟨rfl,rfl⟩),.inl (.inl rfl),.inl (.inl rfl),.inl (.inl rfl),.inl (.inl rfl),trivial⟩ ?_)))
   all_goals exact E _ _ (Or.inl (Or.inl rfl))
 ·have hP:=f335 G w x.old x.nth (by omega) (by omega) ho hn.1 (by omega)
  have hg:=eC (nth:=x.nth) (gB (w:=w) ho)
  have an:1<=x.old.length:=length_pos_iff.2 ho
  have bk:=gL an (Nat.zero_le _) hg
  rw[mY w x a b hk ho]at E
  obtain⟨ps,bx⟩:∃ps,cB (occs w x.old) x.nth=ps:=⟨_,rfl⟩
  rw[bx]at hP hg bk E
  have bw:(ps.map λn:Nat=>[AV.int .i64 (n:Int)])=ps.map prow:=rfl
  rw[bw]at hP
  have ad:∀r∈ps.map prow,r.length=1:=by intro r hr;obtain⟨n,_,rfl⟩:=mem_map.1 hr;rfl
  have hC:=f337 G (ps.map prow) ad (by rw[length_map];omega)
  have N:=f336 G w (ps.map (· +x.old.length)) 0 x.new a b (by omega) (by rw[length_map];omega) (by omega) (by omega) (ia hg)
  have Z:decide ((x.old.length:Int)=0)=false:=decide_eq_false (by omega)
  rcases Classical.em (ps=[])with h0|h0
  ·subst h0
   rw[if_pos rfl]at E
   simp only[map_nil]at hP hC
   (repeat' (first|(with_reducible refine aa hP ?_)|simp only[EVz,seval,↓reduceIte,EV6,EV7,e2,e4,Z]|(refine aP [] _ hC.v (aA.rfl' _) (SubN.refl _) (λr1 cl h1=>?_))|(obtain⟨ag,cap,rfl,hO⟩:=h1)))
   all_goals exact E _ _ (Or.inr ⟨.inr rfl,.inl rfl,trivial⟩)
  ·rw[if_neg h0]at E
   have h1:1<=ps.length:=length_pos_iff.2 h0
   have e3:decide ((ps.length:Int)=0)=false:=decide_eq_false (by omega)
   have X:(ps.map prow).length=ps.length:=length_map ..
   (repeat' (first|(with_reducible refine aa hP ?_)|simp only[EVz,seval,↓reduceIte,EV6,EV7,e2,e4,Z,e3,X]|(refine ay [] [] hC.v (aA.rfl' _) (SubN.refl _) (λr1 cl h1 d0=>?_))|(obtain⟨ag,cap,rfl,⟨hO,_⟩|⟨b1,pad,rfl,rfl,al,bm,d4,cp⟩⟩:=h1)))
   ·exfalso
    exact h0 (by simpa using hO)
   ·obtain⟨C,I⟩:∃C:Nat->List (List AV),C=λi=>((ps.take i).map (· +x.old.length)++ps.drop i).map prow:=⟨_,rfl⟩
    have bd:C 0=ps.map prow:=by rw[I];simp
    have bh:C ps.length=(ps.map (· +x.old.length)).map prow:=by rw[I];simp
    have M:∀i,∀r∈C i,r.length=1:=λi r hr=>by rw[I]at hr;obtain⟨n,_,rfl⟩:=mem_map.1 hr;rfl
    have J:∀i,i<=ps.length->(C i).length=ps.length:=λi hi=>by rw[I];simp;omega
    rw[X]at al
    refine ax ps (λi r (c:Unit)=>True) (λi c=>[(0,.lst 4 (w.map Wd.cs)),(1,.lst 1 (x.old.map srow)),(2,.lst 1 (x.new.map srow)),(4,.int .i64 a),(5,.int .i64 b),(14,.sc (.slice (some ⟨b1,0,none⟩) ps.length cap)),(52,.int .i64 ps.length),(53,.int .i64 i)]) (λi c=>[(b1,.cells 3 ((C i).flatten++pad))]) () trivial (by rw[bd];exact Weak.rfl' _ _) (by omega) (λi p r c _ Y ch=>?_) (λc _ bp=>?_)
    ·have hi:=Y.lt
     have V:ps[i]? =some p:=by
      have:=Y.get p
      rw[getElem?_eq_getElem hi]
      simpa[hi]using this
     have d3:=kz hg V
     have be:(C i)[i]? =some (prow p):=by
      rw[I]
      simp only[getElem?_map]
      rw[getElem?_append_right (by simp;omega)]
      simp only[length_map,length_take,Nat.min_eq_left (Nat.le_of_lt hi),Nat.sub_self,getElem?_drop,Nat.add_zero,V]
      rfl
     have bn:((C i).flatten++pad).drop (0+i*1)= .int .i64 (p:Int)::((C i).flatten++pad).drop (i+1):=by
      have F:=ju (sz:=1) (pad:=pad) (M i) be
      have h3:i<((C i).flatten++pad).length:=by rw[length_append,ap _ (M i),J i (by omega)];omega
      rw[Nat.zero_add,Nat.mul_one,drop_eq_getElem_cons h3]
      rw[Nat.mul_one,drop_eq_getElem_cons h3]at F
      simp only[take_succ_cons,take_zero,prow]at F
      injection F with F _
      rw[F]
     have bo:((C i).flatten++pad).length=(ps.map prow).flatten.length+pad.length:=by rw[length_append,ap _ (M i),ap _ ad,J i (by omega),X]
     have cm:0+i*1+1<=((C i).flatten++pad).length:=by rw[bo,ap _ ad,X];omega
     have wp:IntKind.i64.wrap ((p:Int)+(x.old.length:Int))=((p+x.old.length:Nat):Int):=by rw[av (by omega) (by omega)];omega
     have aw:splice ((C i).flatten++pad) (0+i*1) [.int .i64 ((p+x.old.length:Nat):Int)]=(C (i+1)).flatten++pad:=by
      have h4:C (i+1)=(C i).set i (prow (p+x.old.length)):=by
       have h5:ps.drop i=p::ps.drop (i+1):=by
        rw[drop_eq_getElem_cons hi]
        congr 1
        rw[getElem?_eq_getElem hi]at V
        injection V
       rw[I]
       simp only
       rw[h5,Y.take]
       simp only[map_append,map_cons,map_nil]
       rw[set_append_right _ _ (by simp;omega)]
       have h6:i-(List.map prow ((ps.take i).map (· +x.old.length))).length=0:=by simp;omega
       rw[h6]
       simp
      rw[h4,Nat.zero_add]
      exact jv (sz:=1) (pad:=pad) (M i) (by rw[J i (by omega)];exact hi) rfl
     (repeat' (first|(with_reducible refine AI (by omega) ?_)|simp only[EVz,seval,↓reduceIte,EV6,EV7,Y.yes,Y.le0,Y.lt',Y.get,ch,bn,wp,aw]|(with_reducible refine af ?_)))
     exact am Y () trivial (Weak.rfl' _ _)
    ·(try simp only[EVz,seval,↓reduceIte,EV6,EV7,bp])
     refine⟨_,_,Weak.freeze (j:=14) (rows:=C ps.length) (pad:=pad) (σ:=[]) rfl (M _) (J _ (Nat.le_refl _)).symm (by rw[J _ (Nat.le_refl _)];exact al) bm,?_⟩
     rw[bh]
     unfold ly at N
     generalize putL w x.new a b 0 (ps.map (· +x.old.length)) 0=q at*
     rcases Classical.em (256<q.length)with F|F
     ·rw[if_pos F]at E N
      (repeat' (first|(with_reducible refine aa N ?_)|simp only[EVz,seval,↓reduceIte,EV6,EV7,Env.set,Env.get]))
      all_goals exact E _ _ (Or.inr ⟨.inr rfl,.inl rfl,trivial⟩)
     ·rw[if_neg F]at E N
      (repeat' (first|(with_reducible refine aa N ?_)|simp only[EVz,seval,↓reduceIte,EV6,EV7,Env.set,Env.get]))
      all_goals exact E _ _ (Or.inl (Or.inl rfl))
end
end Go.Av

/-
  ENACT, M26: what is done to a unit: kids cut out and put in, words, heading, label.
-/
import Derived.Test.YtnoakpkjccigoaaGreatDoorRXN0toXM25
import Derived.Test.YtnoakpkjccigoaaGreatDoorRXM16toXV1
namespace Go.Av
open Go Go.RowKit Go.Proofs List
set_option linter.unusedSimpArgs false
set_option linter.unusedVariables false
theorem SubN.ins1 {t a b c:Nat×AObj} {κ:Store}:SubN ((κ++[t])++[a,b,c]) (t::a::b::c::κ):=by
 have e:(κ++[t])++[a,b,c]=κ++[t,a,b,c]:=by simp
 rw[e]
 exact SubN.perm (perm_append_comm (l₁:=κ) (l₂:=[t,a,b,c]))
theorem SubN.ins2 {t a b c:Nat×AObj} {κ:Store}:SubN (a::b::c::κ) ((κ++[t])++[a,b,c]):=by
 have e:(κ++[t])++[a,b,c]=κ++[t,a,b,c]:=by simp
 rw[e]
 exact SubN.trans (SubN.tail (SubN.refl _) t) (SubN.perm (perm_append_comm (l₁:=[t,a,b,c]) (l₂:=κ)))
section
variable (G:Glob)
theorem d244 (E j:Nat) (x:U) (Z:j<x.kids.length) (hl:x.kids.length<1000000):
  jA G (.func (.func 244) #[] #[.pointer (some ⟨E,0,none⟩)]) (λy=>{y with kids:=pm y.kids j}) [(E,.cells 3 [.int .i64 j])] x:=by
 intro b v κ X I
 refine⟨_,_,_,rfl,?_⟩
 have M:=f202 G _ v κ X j (by rw[length_map];exact Z) (by rw[length_map];exact hl)
 have hv:=X
 obtain⟨T,cap,rfl,_⟩:=hv
 have Y:¬b=E:=by simp[Store.keys]at I;exact I.1.1
 have q2:¬E=b:=λe=>Y e.symm
 have hw:IntKind.i64.wrap ((j:Int)+1)=((j+1:Nat):Int):=by rw[aA (by omega) (by omega)];omega
 rw[length_map]at M
 have N:(x.kids.map U.cs).take j++(x.kids.map U.cs).drop (j+1)=(pm x.kids j).map U.cs:=by unfold pm;rw[map_append,map_take,map_drop]
 rw[N]at M
 show ag G Tryz.prog 244 [.sc (.pointer (some ⟨b,0,none⟩)),.sc (.pointer (some ⟨E,0,none⟩))] _ _
 simp only[U.csv]
 refine ag.w c244 ?_
 unfold s244 r244
 (repeat' (first|simp only[EVz,seval,↓reduceIte,EV6,EV7,Y,q2,hw]|(with_reducible first|refine ae ?_ ?_|refine af ?_)|(refine aT κ [(b,_),(E,_)] M.v (ax.rfl' _) (SubN.perm (perm_append_comm (l₁:=κ) (l₂:=[_,_]))) (λr1 J hr V=>?_))|(refine⟨_,SubN.perm (perm_append_comm (l₁:=[_,_]) (l₂:=J)),?_⟩)|(obtain⟨D,F,rfl,O⟩:=hr)))
 all_goals exact RET.mk' (SubN.refl _) ⟨_,J,⟨D,F,by rw[length_map],O⟩,rfl⟩
theorem d158 (D:Nat) (w:List Wd) (x:U):
  jA G (.func (.func 158) #[] #[.pointer (some ⟨D,0,none⟩)]) (λy=>{y with words:=w}) [(D,.cells 24 [.lst 4 (w.map Wd.cs)])] x:=by
 intro b v κ I E
 have F:¬b=D:=by simp[Store.keys]at E;exact E.1.1
 have J:¬D=b:=λe=>F e.symm
 refine⟨_,_,_,rfl,?_⟩
 show ag G Tryz.prog 158 [.sc (.pointer (some ⟨b,0,none⟩)),.sc (.pointer (some ⟨D,0,none⟩))] _ _
 simp only[U.csv]
 refine ag.w c158 ?_
 unfold s158 r158
 (repeat' (simp only[EVz,seval,↓reduceIte,EV6,EV7,F,J]))
 all_goals exact RET.mk' (SubN.refl _) ⟨_,κ,I,rfl⟩
theorem d160 (D:Nat) (w:List Wd) (x:U):
  jA G (.func (.func 160) #[] #[.pointer (some ⟨D,0,none⟩)]) (λy=>{y with words:=w}) [(D,.cells 24 [.lst 4 (w.map Wd.cs)])] x:=by
 intro b v κ I E
 have F:¬b=D:=by simp[Store.keys]at E;exact E.1.1
 have J:¬D=b:=λe=>F e.symm
 refine⟨_,_,_,rfl,?_⟩
 show ag G Tryz.prog 160 [.sc (.pointer (some ⟨b,0,none⟩)),.sc (.pointer (some ⟨D,0,none⟩))] _ _
 simp only[U.csv]
 refine ag.w c160 ?_
 unfold s160 r160
 (repeat' (simp only[EVz,seval,↓reduceIte,EV6,EV7,F,J]))
 all_goals exact RET.mk' (SubN.refl _) ⟨_,κ,I,rfl⟩
theorem d162 (D:Nat) (w:List Wd) (x:U):
  jA G (.func (.func 162) #[] #[.pointer (some ⟨D,0,none⟩)]) (λy=>{y with head:=w}) [(D,.cells 24 [.lst 4 (w.map Wd.cs)])] x:=by
 intro b v κ I E
 have F:¬b=D:=by simp[Store.keys]at E;exact E.1.1
 have J:¬D=b:=λe=>F e.symm
 refine⟨_,_,_,rfl,?_⟩
 show ag G Tryz.prog 162 [.sc (.pointer (some ⟨b,0,none⟩)),.sc (.pointer (some ⟨D,0,none⟩))] _ _
 simp only[U.csv]
 refine ag.w c162 ?_
 unfold s162 r162
 (repeat' (simp only[EVz,seval,↓reduceIte,EV6,EV7,F,J]))
 all_goals exact RET.mk' (SubN.refl _) ⟨_,κ,I,rfl⟩
theorem d163 (D:Nat) (d:Dd) (x:U):
  jA G (.func (.func 163) #[] #[.pointer (some ⟨D,0,none⟩)]) (λy=>{y with label:=d.it.label}) [(D,.cells 54 d.cs)] x:=by
 intro b v κ I E
 have F:¬b=D:=by simp[Store.keys]at E;exact E.1.1
 have J:¬D=b:=λe=>F e.symm
 refine⟨_,_,_,rfl,?_⟩
 show ag G Tryz.prog 163 [.sc (.pointer (some ⟨b,0,none⟩)),.sc (.pointer (some ⟨D,0,none⟩))] _ _
 simp only[U.csv]
 unfold Dd.cs
 rw[Itm.cs_eq]
 refine ag.w c163 ?_
 unfold s163 r163
 (repeat' (simp only[EVz,seval,↓reduceIte,EV6,EV7,F,J]))
 all_goals exact RET.mk' (SubN.refl _) ⟨_,κ,I,rfl⟩
theorem d154 (E F j:Nat) (y x:U) (hj:j<=x.kids.length) (hl:x.kids.length<1000000):
  jA G (.func (.func 154) #[] #[.pointer (some ⟨E,0,none⟩),.pointer (some ⟨F,0,none⟩)]) (λz=>{z with kids:=l8 z.kids j y}) [(E,.cells 3 [.int .i64 j]),(F,.cells 27 y.cs)] x:=by
 intro b v κ ho D
 have hv:=ho
 obtain⟨ah,cap,rfl,_⟩:=hv
 rw[length_map]at ho
 have q:¬b=E/\¬b=F/\¬E=F:=by simp[Store.keys]at D;exact⟨D.1.1,D.1.2.1,D.2.1.1⟩
 obtain⟨q1,q2,q3⟩:=q
 have T:¬E=b:=λe=>q1 e.symm
 have V:¬F=b:=λe=>q2 e.symm
 have X:¬F=E:=λe=>q3 e.symm
 have hC:=λbo=>f155 G _ _ κ ho j (by rw[length_map];exact hj) (by rw[length_map];exact hl) bo y.cs (U.cs_len y)
 have Y:dL (x.kids.map U.cs) j y.cs=(l8 x.kids j y).map U.cs:=by unfold dL l8;rw[map_append,map_cons,map_take,map_drop]
 rw[Y]at hC
 refine⟨_,_,_,rfl,?_⟩
 show ag G Tryz.prog 154 [.sc (.pointer (some ⟨b,0,none⟩)),.sc (.pointer (some ⟨E,0,none⟩)),.sc (.pointer (some ⟨F,0,none⟩))] _ _
 simp only[U.csv,length_map]
 refine ag.w c154 ?_
 unfold s154 r154
 (repeat' (first|simp only[EVz,seval,↓reduceIte,EV6,EV7,q1,q2,q3,T,V,X,Z]|simp only[EVz,seval,↓reduceIte,EV6,EV7,q1,q2,q3,T,V,X]|(with_reducible intro J N;(try(have O:=N;simp only[EVK]at O;(have Z:=O))))|(with_reducible first|refine ae ?_ ?_|refine af ?_)|(refine⟨[y.cs],rfl,(by simp[U.cs_len]),(by simp),?_⟩)|(refine aT (κ++[(J,_)]) [(b,_),(E,_),(F,_)] (hC J).v (ax.rfl' _) SubN.ins1 (λr1 an hr al=>?_))|(obtain⟨ad,⟨I,M,rfl,ac⟩,rfl⟩:=hr)|(refine⟨_,SubN.ins2,?_⟩)))
 all_goals exact RET.mk' (SubN.refl _) ⟨_,ad,⟨I,M,by rw[length_map],ac⟩,rfl⟩
theorem d164 (E F j:Nat) (y x:U) (hj:j<=x.kids.length) (hl:x.kids.length<1000000):
  jA G (.func (.func 164) #[] #[.pointer (some ⟨E,0,none⟩),.pointer (some ⟨F,0,none⟩)]) (λz=>{z with kids:=l8 z.kids j y}) [(E,.cells 3 [.int .i64 j]),(F,.cells 27 y.cs)] x:=by
 intro b v κ ho D
 have hv:=ho
 obtain⟨ah,cap,rfl,_⟩:=hv
 rw[length_map]at ho
 have q:¬b=E/\¬b=F/\¬E=F:=by simp[Store.keys]at D;exact⟨D.1.1,D.1.2.1,D.2.1.1⟩
 obtain⟨q1,q2,q3⟩:=q
 have T:¬E=b:=λe=>q1 e.symm
 have V:¬F=b:=λe=>q2 e.symm
 have X:¬F=E:=λe=>q3 e.symm
 have hC:=λbo=>f155 G _ _ κ ho j (by rw[length_map];exact hj) (by rw[length_map];exact hl) bo y.cs (U.cs_len y)
 have Y:dL (x.kids.map U.cs) j y.cs=(l8 x.kids j y).map U.cs:=by unfold dL l8;rw[map_append,map_cons,map_take,map_drop]
 rw[Y]at hC
 refine⟨_,_,_,rfl,?_⟩
 show ag G Tryz.prog 164 [.sc (.pointer (some ⟨b,0,none⟩)),.sc (.pointer (some ⟨E,0,none⟩)),.sc (.pointer (some ⟨F,0,none⟩))] _ _
 simp only[U.csv,length_map]
 refine ag.w c164 ?_
 unfold s164 r164
 (repeat' (first|simp only[EVz,seval,↓reduceIte,EV6,EV7,q1,q2,q3,T,V,X,Z]|simp only[EVz,seval,↓reduceIte,EV6,EV7,q1,q2,q3,T,V,X]|(with_reducible intro J N;(try(have O:=N;simp only[EVK]at O;(have Z:=O))))|(with_reducible first|refine ae ?_ ?_|refine af ?_)|(refine⟨[y.cs],rfl,(by simp[U.cs_len]),(by simp),?_⟩)|(refine aT (κ++[(J,_)]) [(b,_),(E,_),(F,_)] (hC J).v (ax.rfl' _) SubN.ins1 (λr1 an hr al=>?_))|(obtain⟨ad,⟨I,M,rfl,ac⟩,rfl⟩:=hr)|(refine⟨_,SubN.ins2,?_⟩)))
 all_goals exact RET.mk' (SubN.refl _) ⟨_,ad,⟨I,M,by rw[length_map],ac⟩,rfl⟩
end
theorem RET.keep {x v:AV} {σ D:Store} (F:x=v) (E:SubN σ D):RET x D (λr σ'=>r=v/\σ'=σ):=⟨v,σ,F ▸ AVle.rfl' _,E,rfl,rfl⟩
theorem cj (G:Glob) (j:Idd) (u:U) (F:u.Short):Pure G Tryz.prog 44 [.agg u.cs,.agg j.cs] (.tup [.agg (fnd j u).cs,.bool (hasP j u)]):=by
 have D:=f44 G j u F
 unfold gV at D
 rw[has_way]at D
 cases h:hasP j u with
 |true=>
  rw[h]at D
  exact D
 |false=>
  rw[h]at D
  simp only[Bool.not_false,if_true]at D
  have E:fnd j u=noU:=by
   unfold Go.Av.fnd
   rw[(cO u).2 (of_decide_eq_false h)]
   rfl
  rw[E]
  refine ag.toPure D ?_
  rintro r σ' ⟨rfl,rfl⟩
  refine LeRep.tup (.cons (LeRep.agg ?_) (.cons (LeRep.refl _) .nil))
  rw[U.cs_eq]
  unfold zU noU
  repeat' first
   |exact LeReps.nil
   |refine LeReps.cons ?_ ?_
  all_goals first|exact LeRep.refl _|exact LeRep.nil
theorem dK:noU.Short:=by
 have F:noU.fit:=(U.fit_eq _).2 ⟨by decide,⟨by decide,by simp[noU]⟩,⟨by decide,by simp[noU]⟩,by decide,by simp[noU]⟩
 have D:noU.flat=[noU]:=by rw[U.flat_eq];show noU::U.flats []=_;rw[U.flats]
 refine⟨⟨F,by rw[D];decide⟩,?_⟩
 rw[D]
 intro x E
 simp only[mem_singleton]at E
 subst E
 exact⟨by decide,by decide,by decide,by simp[noU],by simp[noU]⟩
theorem fb {u:U} (E:u.Short) (j:Idd):(fnd j u).Short:=by
 cases h:U.way j u with
 |nil=>
  unfold Go.Av.fnd
  rw[h]
  exact dK
 |cons x l=>
  obtain⟨y,D⟩:∃y,(U.way j u).getLast?=some y:=by rw[h];exact⟨_,getLast?_eq_some_getLast (by simp)⟩
  rw[aB D]
  exact E.node (m7 u _ (mem_of_getLast? D))
section
variable (G:Glob)
theorem f109 {σ:Store} {l:List (Value×Bool×Int)} (N:l.length<1000000)
  (T:∀x∈l,∃F,SubN F σ/\cd G Tryz.prog x.1 [] F (λr σ'=>r= .bool x.2.1/\σ'=F)):ag G Tryz.prog 109 [.lst 2 (l.map ckRow)] σ λr σ'=>r= .int .i64 (cc l)/\σ'=σ:=by
 refine ag.wk c109 λR M=>?_
 unfold s109 r109
 (repeat' (first|(with_reducible (refine ab (λh=>?_) (λh=>?_))<;>(try simp only[DZ]at h))|simp only[EVz,seval,↓reduceIte,EV6,EV7,E.yes,E.le0,E.lt',E.get,E.row,Y,ckRow]|simp only[EVz,seval,↓reduceIte,EV6,EV7,V]|simp only[EVz,seval,↓reduceIte,EV6,EV7]|(with_reducible intro O I;(try(have J:=I;simp only[EVK]at J;(have X:=J))))|(refine ay l (λi r (c:Unit)=>cc l=cc r) (λi c=>[(5,.lst 2 (l.map ckRow)),(6,.int .i64 l.length),(7,.int .i64 i)]) (λ_ _=>σ) () rfl (Weak.rfl' _ _) (by omega) (λi x r c D E Y=>?_) (λc D V=>?_))|(refine ce ((T x E.mem).elim λ_ q=>q.2.keepIn q.1) (SubN.tail (SubN.refl _) _) ?_)|fail))
 ·exact M _ _ (.inl (.inl (by rw[D,cc,if_pos h]))) (SubN.tail (SubN.refl _) _)
 ·exact ap E () (by rw[D,cc,if_neg (by simp[h])]) (Weak.sub (SubN.tail (SubN.refl _) _))
 ·exact M _ _ (.inl (.inl (by rw[D];rfl))) (SubN.refl _)
theorem bG {σ:Store} {g:Option Nat} {T:TypeId} {l:List (Value×Bool×Int)} {K:AV->Store->Prop} {t:Tag K} {rows:List (List AV)} (D:rows=l.map ckRow) (F:l.length<1000000)
  (J:∀x∈l,∃E,SubN E σ/\cd G Tryz.prog x.1 [] E (λr σ'=>r= .bool x.2.1/\σ'=E)) (I:K (.int .i64 (cc l)) σ):CALL G Tryz.prog (.func (.func 109) #[] #[]) [.own g T 2 rows] σ K t:=by
 subst D
 exact aZ σ [] (f109 G F J).v ⟨.inl (.inr ⟨rfl,rfl⟩),trivial⟩ (by rw[append_nil];exact SubN.refl _) (by rintro _ _ ⟨rfl,rfl⟩;rw[append_nil];exact I)
set_option maxHeartbeats 4000000 in
theorem f116:∀(u:U),u.Short->Pure G Tryz.prog 116 [.agg u.cs] (.agg u.cs):=by
 refine U.ind λu ih hs=>?_
 have h0:=hs.2 u u.flat_self
 have bw:=hs.1.kids
 have bl:=f86p G u.head h0.2.1
 have bn:=f86p G u.words h0.2.2.1
 have bm:=f203 G (u.kids.map U.cs) (dZ _) (by rw[length_map];omega)
 refine ag.freezeK (R1:=λσ'=>σ'=[]) ?_
 refine ag.w c116 ?_
 unfold s116 r116
 refine W_tail2 λY hY=>?_
 have al:∀(I J:Nat) (v:AV) (κ:Store),bD 27 8 (u.kids.map U.cs) v κ->(κ.keys++[J,I]).Nodup->
   W G Tryz.prog Y (retQ [(2,some (true,8))] λr σ'=>∃xs κ bh,r= .agg xs/\FrzL κ xs u.cs/\σ'=κ++bh/\bh=[]) [(1,.sc (.pointer (some ⟨I,0,none⟩))),(2,.sc (.pointer (some ⟨J,0,none⟩)))] ((I,.cells 27 (U.csv u v))::(J,.cells 27 zU)::κ) ⟨⟩:=by
  intro I J v κ X V
  subst hY
  have hv:=X
  obtain⟨M,cap,rfl,hv⟩:=hv
  rw[length_map]at X
  have Z:¬I=J:=by
   have:=(nodup_append.1 V).2.1
   simp at this
   exact λe=>this e.symm
  have q2:¬J=I:=λe=>Z e.symm
  rcases hv with⟨h1,h2,h3⟩|⟨T,pad,rfl,rfl,g1,g2,g3,g4⟩
  ·have aw:u.kids=[]:=map_eq_nil_iff.1 h1
   subst h3
   simp only[aw,map_nil,length_nil]at X ⊢
   unfold U.csv
   (repeat' (first|(with_reducible (refine ab (λh=>?_) (λh=>?_))<;>(try simp only[DZ]at h))|simp only[EVz,seval,↓reduceIte,EV6,EV7,Z,q2,U.csv,D.yes,D.le0,D.lt',D.get,D.row,hw]|simp only[EVz,seval,↓reduceIte,EV6,EV7,Z,q2,U.csv,hn]|simp only[EVz,seval,↓reduceIte,EV6,EV7,Z,q2,U.csv]|(refine ay ([]:List U) (λE r (c:Unit)=>True) (λE c=>[(1,.sc (.pointer (some ⟨I,0,none⟩))),(2,.sc (.pointer (some ⟨J,0,none⟩))),(18,.sc (.slice M 0 cap)),(19,.int .i64 (0:Nat)),(20,.int .i64 E)]) (λE c=>[(I,.cells 27 (U.csv u (.sc (.slice M 0 cap)))),(J,.cells 27 zU)]) () trivial (Weak.rfl' _ _) (by simp) (λE x r c ah D hw=>?_) (λc ah hn=>?_))|(exfalso;omega)|fail))
   all_goals try exact absurd D.mem (by simp)
   all_goals exact RET.mk' (SubN.nil _) ⟨_,[],[],rfl,U.csv_frz (x:=u) (by rw[aw];exact X),rfl,rfl⟩
  ·rw[length_map]at g1
   simp[Store.keys]at V
   have q3:¬I=T:=by omega
   have q4:¬J=T:=by omega
   have bd:¬T=I:=λe=>q3 e.symm
   have be:¬T=J:=λe=>q4 e.symm
   (repeat' (first|simp only[EVz,seval,↓reduceIte,EV6,EV7,Z,q2,U.csv,length_map,D.yes,D.le0,D.lt',D.get,D.row,hw]|simp only[EVz,seval,↓reduceIte,EV6,EV7,Z,q2,U.csv,length_map,hn]|simp only[EVz,seval,↓reduceIte,EV6,EV7,Z,q2,U.csv,length_map]|(refine ay u.kids (λE r (c:Unit)=>True) (λE c=>[(1,.sc (.pointer (some ⟨I,0,none⟩))),(2,.sc (.pointer (some ⟨J,0,none⟩))),(18,.sc (.slice (some ⟨T,0,none⟩) u.kids.length cap)),(19,.int .i64 u.kids.length),(20,.int .i64 E)]) (λE c=>[(I,.cells 27 (U.csv u (.sc (.slice (some ⟨T,0,none⟩) u.kids.length cap)))),(J,.cells 27 zU),(T,.cells 27 ((u.kids.map U.cs).flatten++pad))]) () trivial (Weak.rfl' _ _) (by omega) (λE x r c ah D hw=>?_) (λc ah hn=>?_))|fail))
   ·have ad:=D.lt
    have ba:u.kids[E]? =some x:=by rw[getElem?_eq_getElem ad,←D.get x];simp[ad]
    have bo:(u.kids.map U.cs)[E]? =some x.cs:=by rw[getElem?_map,ba];rfl
    have an:(((u.kids.map U.cs).flatten++pad).drop (0+E*8)).take 8=x.cs:=by simpa using jI (pad:=pad) g3 bo
    have bs:8<=(((u.kids.map U.cs).flatten++pad).drop (0+E*8)).length:=by
     rw[length_drop,g4];omega
    have bu:0+E*8+8<=((u.kids.map U.cs).flatten++pad).length:=by
     rw[g4];omega
    have bq:u.kids.set E x=u.kids:=by
     apply ext_getElem?
     intro j
     rw[getElem?_set]
     split
     ·rename_i e;subst e;exact ba.symm
     ·rfl
    have ac:aH ((u.kids.map U.cs).flatten++pad) (0+E*8) x.cs=(u.kids.map U.cs).flatten++pad:=by
     have:=iK (pad:=pad) (c:=x.cs) g3 (i:=E) (by rw[length_map];exact ad) (U.cs_len _)
     rw[←map_set,bq]at this
     simpa using this
    have bp:=ih x D.mem (hs.kid D.mem)
    have bb:=U.cs_len x
    (repeat' (first|(with_reducible first|refine AI (by omega) ?_|refine aa bp ?_)|simp only[EVz,seval,↓reduceIte,EV6,EV7,D.yes,D.le0,D.lt',D.get,hw,an,ac,Z,q2,q3,q4,bd,be,bb,O]|simp only[EVz,seval,↓reduceIte,EV6,EV7,D.yes,D.le0,D.lt',D.get,hw,an,ac,Z,q2,q3,q4,bd,be,bb]|(with_reducible intro bi N;(try(have F:=N;simp only[EVK]at F;(have O:=F))))|(with_reducible first|refine ae ?_ ?_|refine af ?_)|fail))
    all_goals exact ap D () trivial (Weak.sub (SubN.tail (SubN.refl _) _))
   ·(repeat' ((exfalso;omega)))
    all_goals exact RET.mk' (σ':=[(T,_)]) (SubN.tail (SubN.tail (SubN.refl _) _) _) ⟨_,[(T,_)],[],rfl,U.csv_frz (x:=u) X,by simp,rfl⟩
 clear hY
 (repeat' (first|(with_reducible first|refine aa bl ?_|refine aa bn ?_)|simp only[EVz,seval,↓reduceIte,EV6,EV7,U.cs_eq u,O]|simp only[EVz,seval,↓reduceIte,EV6,EV7,U.cs_eq u]|(with_reducible intro bi N;(try(have F:=N;simp only[EVK]at F;first|(have O:=AI F O)|(have O:=F))))|(with_reducible first|refine ae ?_ ?_|refine af ?_)|(refine aT [] ((_,_)::(_,_)::[]) bm.v (ax.rfl' _) (SubN.refl _) (λv κ X V=>⟨_,SubN.pull2',?_⟩);have hv:=X;obtain⟨M,cap,rfl,_⟩:=hv)|fail))
 all_goals(rw[length_map]at X;exact al _ _ _ _ X (by simpa[Store.keys]using V))
end
theorem SubN.pullL {l κ σ:Store}:SubN (l++(κ++σ)) (κ++(l++σ)):=SubN.perm (by
 rw[←append_assoc,←append_assoc]
 exact List.Perm.append_right σ perm_append_comm)
theorem SubN.pull4 {a b c d:Nat×AObj} {κ σ:Store}:SubN (a::b::c::d::(κ++σ)) (κ++a::b::c::d::σ):=SubN.pullL (l:=[a,b,c,d])
def jx (j:Idd) (us:List U):Bool:=decide (j∈U.idss us)
theorem ids_kid {j:Idd} {u:U} (h:u.id≠j):hasP j u=jx j u.kids:=by
 unfold hasP jx
 rw[U.ids_eq]
 simp[mem_cons,Ne.symm h]
theorem oF (j:Idd) (k:U) (us:List U):jx j (k::us)=(hasP j k||jx j us):=by
 unfold jx hasP
 rw[U.idss_cons,Bool.eq_iff_iff]
 simp
theorem nd_kid:∀{us:List U},(U.idss us).Nodup->∀{x:U},x∈us->x.ids.Nodup
 |[],_,x,hx=>by cases hx
 |y::us,h,x,hx=>by
  rw[U.idss_cons,nodup_append]at h
  rcases mem_cons.1 hx with rfl|hx
  ·exact h.1
  ·exact nd_kid h.2.1 hx
section
variable (G:Glob)
set_option maxHeartbeats 8000000 in
theorem f211 (f:Value) (g:U->U) (σ:Store) (i:Idd):∀(u:U),u.Short->u.ids.Nodup->(i∈u.ids->iV G f g σ (fnd i u))->
  ag G Tryz.prog 211 [.agg u.cs,.agg i.cs,.sc f] σ (λr σ'=>r= .tup [.agg (if i∈u.ids then U.wth i g u else u).cs,.bool (hasP i u)]/\σ'=σ):=by
 refine U.ind λu ih hs hn hD=>?_
 have d2:=hs.1.kids
 have bm:=f203 G (u.kids.map U.cs) (dZ _) (by rw[length_map];omega)
 by_cases Z:u.id=i
 ·have e0:decide (u.id=i)=true:=decide_eq_true Z
  have bo:fnd i u=u:=aB (by rw[aN Z];rfl)
  have hi:i∈u.ids:=Z ▸ cR u
  have hD:=hD hi
  rw[bo]at hD
  unfold iV at hD
  rw[if_pos hi,bA Z,hasP,decide_eq_true hi]
  refine ag.w c211 ?_
  unfold s211 r211
  rw[U.cs_eq u]at hD ⊢
  (repeat' (first|simp only[EVz,seval,↓reduceIte,EV6,EV7,gv,e0,D]|simp only[EVz,seval,↓reduceIte,EV6,EV7,gv,e0]|(with_reducible intro I F;(try(have E:=F;simp only[EVK]at E;(have D:=E))))|(refine ce hD (SubN.tail (SubN.tail (SubN.refl _) _) _) ?_)|fail))
  all_goals exact RET.keep rfl (SubN.tail (SubN.tail (SubN.refl _) _) _)
 ·have e0:decide (u.id=i)=false:=decide_eq_false Z
  have bb:=(U.nd_kids hn).1
  have bq:=ids_kid (j:=i) Z
  refine ag.freezeKT (R1:=λσ'=>σ'=σ) rfl ?_
  refine ag.w c211 ?_
  unfold s211 r211
  have hU:=U.cs_eq u
  obtain⟨ys,V⟩:∃ys,(if i∈u.ids then U.wth i g u else u).cs=ys:=⟨_,rfl⟩
  rw[V]
  obtain⟨hb,ac⟩:∃b,hasP i u=b:=⟨_,rfl⟩
  rw[ac]
  rw[hU]
  (repeat' (first|simp only[EVz,seval,↓reduceIte,EV6,EV7,gv,e0,D]|simp only[EVz,seval,↓reduceIte,EV6,EV7,gv,e0]|(with_reducible intro I F;(try(have E:=F;simp only[EVK]at E;(have D:=E))))|fail))
  rename_i b3 d0
  refine ay u.kids (λO r (c:Unit)=>hb=jx i r) (λO c=>[(2,.sc f),(3,.sc (.pointer (some ⟨b3,0,none⟩))),(4,.ref i.cs),(6,.sc (.pointer (some ⟨I,0,none⟩))),(20,.lst 8 (u.kids.map U.cs)),(21,.int .i64 u.kids.length),(22,.int .i64 O)]) (λO c=>[(I,.cells 27 zU),(b3,.cells 27 (U.csv u (.lst 8 (u.kids.map U.cs))))]++σ) () (ac ▸ bq) (Weak.rfl' _ _) (by omega) (λO x r c M J hw=>?_) (λc M hn=>?_)
  ·have N:=J.lt
   have bi:u.kids[O]? =some x:=by rw[getElem?_eq_getElem N,←J.get x];simp[N]
   have bl:=hs.kid J.mem
   rw[oF]at M
   have ba:u.kids≠[]:=λe=>by rw[e]at N;cases N
   have ad:¬b3=I:=λe=>D.1 e.symm
   generalize d1:I=b6 at*
   clear E
   cases hp:hasP i x with
   |true=>
    have ah:i∈x.ids:=of_decide_eq_true hp
    have be:i∈u.ids:=by rw[U.ids_eq];exact mem_cons_of_mem _ (de J.mem ah)
    have aw:u.kids=u.kids.take O++x::u.kids.drop (O+1):=by
     have h3:u.kids.drop O=x::u.kids.drop (O+1):=by
      rw[drop_eq_getElem_cons N]
      congr 1
      rw[getElem?_eq_getElem N]at bi
      exact Option.some.inj bi
     rw[←h3,take_append_drop]
    have sp:=nA aw bb ah
    have bp:=lJ Z sp
    clear aw
    have T:=ih x J.mem bl sp.nd (λ_=>by rw[←bp];exact hD be)
    have bh:=sp.wth (f:=g) Z
    rw[hp]at M
    have bs:u.kids.take O++U.wth i g x::u.kids.drop (O+1)=u.kids.set O (U.wth i g x):=by
     rw[set_eq_take_append_cons_drop,if_pos N]
    rw[bs]at bh
    rw[if_pos be]at V
    rw[if_pos ah,hp]at T
    simp only[Idd.cs]at T
    have an:=U.cs_len (U.wth i g x)
    have al:=U.cs_len x
    (repeat' (first|simp only[EVz,seval,↓reduceIte,EV6,EV7,J.yes,J.le0,J.lt',J.get,J.row,hw,ad,an,al,U.csv,D]|(with_reducible intro I F;(try(have E:=F;simp only[EVK]at E;(have D:=AI E D))))|(refine ce T.v (SubN.tail (SubN.tail (SubN.tail (SubN.refl _) _) _) _) ?_)|fail))
    rename_i b9 _ _ _
    refine aT [] ((I,_)::(b9,_)::(b6,_)::(b3,_)::σ) bm.v (ax.rfl' _) (SubN.refl _) (λv κ ho bu=>⟨_,SubN.pull4,?_⟩)
    have hv:=ho
    obtain⟨cp,cap,rfl,hv⟩:=hv
    rw[length_map]at ho
    obtain⟨X,pad,rfl,rfl,g1,g2,g3,g4⟩:=hv.resolve_left (λh=>ba (map_eq_nil_iff.1 h.1))
    simp[Store.keys]at bu
    have n1:¬X=I:=by omega
    have n2:¬X=b9:=by omega
    have n3:¬X=b6:=by omega
    have n4:¬X=b3:=by omega
    have bw:¬I=X:=λe=>n1 e.symm
    have bx:¬b9=X:=λe=>n2 e.symm
    have ch:¬b6=X:=λe=>n3 e.symm
    have cm:¬b3=X:=λe=>n4 e.symm
    rw[length_map]at g1
    have bd:aH ((u.kids.map U.cs).flatten++pad) (0+O*8) (U.wth i g x).cs=((u.kids.set O (U.wth i g x)).map U.cs).flatten++pad:=by
     rw[map_set]
     simpa using iK (pad:=pad) g3 (by rw[length_map];exact N) (U.cs_len _)
    have cw:0+O*8+8<=((u.kids.map U.cs).flatten++pad).length:=by
     rw[g4];omega
    (repeat' (first|(with_reducible refine AI (by omega) ?_)|simp only[EVz,seval,↓reduceIte,EV6,EV7,J.le0,J.lt',ad,an,bd,n1,n2,n3,n4,bw,bx,ch,cm,D]|fail))
    rw[Bool.true_or]at M
    subst M
    refine RET.mk' (σ':=[(X,_)]++σ) (SubN.tail (SubN.tail (SubN.tail (SubN.tail (SubN.refl _) _) _) _) _) ⟨_,[(X,_)],σ,rfl,?_,rfl,rfl⟩
    rw[←V,bh]
    refine U.csv_frz (x:={u with kids:=u.kids.set O (U.wth i g x)}) (bD.mk (by rw[length_map,length_set]) (by rw[length_map,length_set];exact g1) g2 (dZ _) ?_)
    rw[←g4,length_append,length_append,au _ (dZ _),au _ (dZ _),length_map,length_map,length_set]
   |false=>
    rw[hp]at M
    have Y:i∉x.ids:=of_decide_eq_false hp
    have T:=ih x J.mem bl (nd_kid bb J.mem) (λh=>absurd h Y)
    rw[if_neg Y,hp]at T
    simp only[Idd.cs]at T
    have al:=U.cs_len x
    (repeat' (first|simp only[EVz,seval,↓reduceIte,EV6,EV7,J.yes,J.le0,J.lt',J.get,J.row,hw,ad,al,U.csv,D]|(with_reducible intro I F;(try(have E:=F;simp only[EVK]at E;(have D:=AI E D))))|(refine ce T.v (SubN.tail (SubN.tail (SubN.tail (SubN.refl _) _) _) _) ?_)|fail))
    all_goals exact ap J () (by rw[M,Bool.false_or]) (Weak.sub (SubN.tail (SubN.tail (SubN.refl _) _) _))
  ·have Y:i∉u.ids:=by
    intro h
    have:hb=true:=by rw[←ac];exact decide_eq_true h
    rw[M]at this
    simp[jx,U.idss_nil]at this
   rw[if_neg Y]at V
   have bn:hb=false:=by rw[M];simp[jx,U.idss_nil]
   subst bn
   (repeat' (simp only[EVz,seval,↓reduceIte,EV6,EV7,hn,U.csv,D]))
   refine RET.mk' (σ':=σ) (SubN.tail (SubN.tail (SubN.refl _) _) _) ⟨_,[],σ,rfl,?_,rfl,rfl⟩
   rw[←V,hU]
   exact oh _
theorem f118 (f:Value) (g:U->U) (σ:Store) (i:Idd) (u:U) (O:u.Short) (X:u.ids.Nodup) (hi:i∈u.ids) (V:iV G f g σ (fnd i u)):
  ag G Tryz.prog 118 [.agg u.cs,.agg i.cs,.sc f] σ (λr σ'=>r= .agg (U.wth i g u).cs/\σ'=σ):=by
 have N:=f116 G u O
 have J:=f211 G f g σ i u O X (λ_=>V)
 rw[if_pos hi,hasP,decide_eq_true hi]at J
 simp only[Idd.cs]at J
 have D:=U.cs_len (U.wth i g u)
 refine ag.w c118 ?_
 unfold s118 r118
 generalize (U.wth i g u).cs=ys at*
 have E:ys.take 8=ys:=take_of_length_le (by omega)
 rw[U.cs_eq u]at N J ⊢
 (repeat' (first|(with_reducible refine aa N ?_)|simp only[EVz,seval,↓reduceIte,EV6,EV7,D,E,M]|simp only[EVz,seval,↓reduceIte,EV6,EV7,D,E]|(with_reducible intro T F;(try(have I:=F;simp only[EVK]at I;(have M:=I))))|(with_reducible first|refine ae ?_ ?_|refine af ?_)|(refine ce J.v (by repeat(first|exact SubN.refl _|refine SubN.tail ?_ _)) ?_)|fail))
 all_goals exact RET.keep (by simp[D,E]) (by repeat(first|exact SubN.refl _|refine SubN.tail ?_ _))
end
end Go.Av

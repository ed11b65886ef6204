/-
  TOP, 15: what dateset.both leaves.
-/
import Derived.Test.YtjdccoplpljmlaaGreatDoorVXY10toXL27
import Derived.Test.YtjdccoplpljmlaaGreatDoorVXL13toXFrN
import Derived.Test.YtjdccoplpljmlaaGreatDoorVXY17toXY20
import Derived.Test.YtjdccoplpljmlaaGreatDoorVXL35toXM9
import Derived.Test.YtjdccoplpljmlaaGreatDoorVXAv34toXY2
namespace Go.Av
open Go Go.RowKit Go.Proofs List
set_option linter.unusedSimpArgs false
set_option linter.unusedVariables false
theorem Weak.open {G:Glob} {env:Env} {j:Nat} {e:TypeId} {sz:Nat} {rows:List (List AV)} {v:AV} {κ rest σ:Store} (O:aO e sz rows v κ) (T:env.get j=v) (I:SubN (κ++rest) σ):Weak G env σ (env.set j (.lst sz rows)) rest:=by
 intro ρ w tmps M J
 have F:=M.subN I
 have E:SubN rest σ:=⟨λp X=>I.1 _ (mem_append.2 (.inr X)),λV=>by
  have:=I.2 V
  rw[aB]at this
  exact(nodup_append.1 this).2.1⟩
 refine⟨M.subN E,Ev.of_sub E.1 w,λi=>?_⟩
 rw[Env.get_set]
 split
 ·rename_i N
  rw[←N]
  have h:=Rep.ev (Ev.of_sub I.1 w) (ρ:=ρ) _ _ (J j)
  rw[T,append_assoc]at h
  rw[append_assoc]at F
  exact O.freeze F (λq Y=>Y) h
 ·exact Rep.ev (Ev.of_sub E.1 w) _ _ (J i)
theorem WIn.ws {zs:List Int} {xv:AV} {κ:Store} (h:WIn zs xv κ):∃g,WS κ 3 1 xv (zs.map drow) g/\(∀b,g=some b->κ.keys=[b])/\(g=none->κ=[])/\(∀b,g=some b->κ.erase (some b)=[]):=by
 rcases h with⟨rfl,rfl,rfl⟩|⟨b,cap,pad,rfl,rfl,F,I,J,_⟩
 ·exact⟨none,.inl ⟨rfl,rfl,.inl rfl⟩,λb h=>(by cases h),λ_=>rfl,λb h=>(by cases h)⟩
 ·exact⟨some b,.inr ⟨b,cap,pad,rfl,by rw[length_map],by simp[Store.get],dM zs,J,by rw[length_map];exact F,I⟩,λq E=>by injection E with E;subst E;rfl,λh=>(by cases h),λq E=>by injection E with E;subst E;simp[Store.erase]⟩
theorem mW:∀{l D:List Int},l.Nodup->(∀y∈l,y∈D)->l.length<=D.length
 |[],D,_,_=>Nat.zero_le _
 |y::l,D,hn,hD=>by
  rw[nodup_cons]at hn
  have F:=length_erase_of_mem (hD y (by simp))
  have I:=mW (l:=l) (D:=D.erase y) hn.2 λz E=>(mem_erase_of_ne (by rintro rfl;exact hn.1 E)).2 (hD z (by simp[E]))
  have J:0<D.length:=length_pos_of_mem (hD y (by simp))
  rw[length_cons];omega
theorem rise_le {l D:List Int} (F:l.Pairwise (· < ·)) (E:∀y∈l,y∈D):l.length<=D.length:=mW (F.imp λh e=>by omega) E
theorem nx {G:Glob} {P:Program} {env:Env} {σ:Store} {K:AV->Store->Prop} {t Y e e':TypeId} {sz bytes:Nat} {x y:Operand} {rows ys:List (List AV)} {xv:AV}
  (hu:P.underlying t=some (.slice e)) (O:P.underlying Y=some (.slice e')) (hi:(P.info? e).map (λi=>(i.size,i.bytes))=some (sz,bytes)) (hz:(cu P e).map List.length=some sz) (I:sz≠0) (J:bytes≠0)
  (T:(SOpd.of x).eval G env=xv) (X:aO e sz rows xv σ) (V:srcX sz ((SOpd.of y).eval G env) λl=>l=ys) (F:(rows.length+ys.length)*bytes<=140737488355328)
  (O:∀E cap σ',aO e sz (rows++ys) (.sc (.slice E (rows++ys).length cap)) σ'->K (.sc (.slice E (rows++ys).length cap)) σ'):RAW G P (.call (.mk (.builtin .append) #[x,y] #[t,Y])) env σ K ⟨⟩:=by
 obtain⟨g,hW,M,N⟩:=X.ws
 have he:σ.erase g=[]:=by
  cases g with
  |none=>exact N rfl
  |some b=>exact M b rfl
 refine aY hu (by assumption) hi hz I J T hW V F (λZ e2=>?_) (λb cap pad hb k1 k2 k3 k4=>?_)
 ·subst Z e2
  obtain⟨E,cap,rfl,h⟩:=X
  exact O E cap σ ⟨E,cap,rfl,h⟩
 ·rw[he]
  exact O _ _ _ (aO.mk rfl k1 k2 k3 k4)
section
variable (G:Glob)
set_option maxHeartbeats 8000000 in
theorem bothC (hS:eK G) (hI:SortIn G) (D:List Int) (h0:(0:Int)∈D) (hF:(1048577:Int)∈D) (ea:D.length<10000):fL G D:=by
 intro a b f g ha hb hA hB hf
 have cm:=f183 G hS D h0 hF a (by omega) hA
 have cp:=f183 G hS D h0 hF b (by omega) hB
 refine aj.w c355w ?_
 unfold s355w r355w
 (try simp only[EVz,seval,↓reduceIte,EV6,EV7])
 refine bf cm ?_
 rintro _ ⟨xs,⟨d1,eb⟩,rfl⟩
 (try simp only[EVz,seval,↓reduceIte,EV6,EV7])
 refine bf cp ?_
 rintro _ ⟨ys,⟨d3,ef⟩,rfl⟩
 (try simp only[EVz,seval,↓reduceIte,EV6,EV7])
 have hC:=f374 G (xs.map spc) (dk xs) (by rw[length_map];omega)
 refine dE hC ?_
 rintro v κ hO
 (try simp only[EVz,seval,↓reduceIte,EV6,EV7])
 have bb:Ends D (xs++ys):=λp M=>by
  rcases mem_append.1 M with M|M
  ·exact d1 p M
  ·exact d3 p M
 have d4:(xs++ys).length<20000:=by rw[length_append];omega
 have bd:xs.map spc++ys.map spc=(xs++ys).map spc:=map_append.symm
 obtain⟨cs,dc⟩:∃cs,xs++ys=cs:=⟨_,rfl⟩
 rw[dc]at bb d4 bd
 refine nx (e:=255) (e':=255) (sz:=2) (bytes:=16) (rows:=xs.map spc) (ys:=ys.map spc) (xv:=v) (by kernel_rfl) (by kernel_rfl) (by kernel_rfl) (by kernel_rfl) (by decide) (by decide) rfl hO ⟨rfl,rfl⟩ (by rw[length_map,length_map];omega) (λe9 cap bx aw=>?_)
 rw[bd,length_map]at aw ⊢
 clear hO hC
 (repeat' (first|(with_reducible (first|refine ab (λh=>?_) (λh=>?_)|refine ai (λh=>?_) (λh=>?_)|refine ak (λh=>?_) (λh=>?_))<;>(try simp only[DZ]at h))|(with_reducible refine AI (by omega) ?_)|simp only[EVz,seval,↓reduceIte,EV6,EV7]|(with_reducible intro J I;(try(have E:=I;simp only[EVK]at E;first|(have F:=AI E F)|(have F:=E))))|(with_reducible first|refine ae ?_ ?_|refine af ?_)|(exfalso;omega)))
 refine ax (ι:=List Int×AV×Store) cs (λi r c=>c.1.length<=2*i/\(∀z∈c.1,z∈D)/\WIn c.1 c.2.1 c.2.2) (λi c=>[(0,.lst 2 (xs.map spc)),(1,.lst 2 (ys.map spc)),(2,.sc f),(7,c.2.1),(20,.lst 2 (cs.map spc)),(21,.int .i64 cs.length),(22,.int .i64 i)]) (λi c=>c.2.2) ([],.nil,[]) ⟨Nat.le_refl _,(λz hz=>by cases hz),Or.inl ⟨rfl,rfl,rfl⟩⟩ (Weak.open (j:=20) aw rfl (by simpa using SubN.refl _)) (by omega) (λi x r c ag V hw=>?_) (λc ag hn=>?_)
 ·obtain⟨zs,xv,κ⟩:=c
  obtain⟨X,O,T⟩:=ag
  simp only at X O T ⊢
  have F:=True.intro
  have al:=bb x V.mem
  have bn:=V.lt
  obtain⟨g,e3,e4,ew,ex⟩:=T.ws
  (repeat' (first|(with_reducible (first|refine ab (λh=>?_) (λh=>?_)|refine ai (λh=>?_) (λh=>?_)|refine ak (λh=>?_) (λh=>?_))<;>(try simp only[DZ]at h))|(with_reducible refine AI (by omega) ?_)|simp only[EVz,seval,↓reduceIte,EV6,EV7,V.yes,V.le0,V.lt',V.get,V.row,hw,spc,F]|simp only[EVz,seval,↓reduceIte,EV6,EV7,V.yes,V.le0,V.lt',V.get,V.row,hw,spc]|(with_reducible intro J I;(try(have E:=I;simp only[EVK]at E;first|(have F:=AI E F)|(have F:=E))))|(with_reducible first|refine ae ?_ ?_|refine af ?_)|(refine⟨[[.int .i64 x.1],[.int .i64 x.2]],rfl,(by simp),(by simp),?_⟩)|(exfalso;omega)))
  rename_i b5 Z
  refine aY (e:=3) (e':=3) (sz:=1) (bytes:=8) (rows:=zs.map drow) (ys:=[[.int .i64 x.1],[.int .i64 x.2]]) (g:=g) (xv:=xv) (by kernel_rfl) (by kernel_rfl) (by kernel_rfl) (by kernel_rfl) (by decide) (by decide) rfl (e3.more [(J,_),(b5,_)] (λb hb=>by have h1:=e4 b hb;rw[h1]at Z E;simp at Z E;simp[Store.keys];exact⟨λe=>E.2 e.symm,λe=>Z e.symm⟩)) ⟨rfl,rfl⟩ (by simp;omega) (λ_ h=>by cases h) (λb cap pad hb k1 k2 k3 k4=>?_)
  have e:zs.map drow++[[AV.int .i64 x.1],[.int .i64 x.2]]=(zs++[x.1,x.2]).map drow:=by simp[drow]
  rw[e]at k1 k3 k4 ⊢
  rw[length_map]at k1 ⊢
  (repeat' (first|(with_reducible (first|refine ab (λh=>?_) (λh=>?_)|refine ai (λh=>?_) (λh=>?_)|refine ak (λh=>?_) (λh=>?_))<;>(try simp only[DZ]at h))|(with_reducible refine AI (by omega) ?_)|simp only[EVz,seval,↓reduceIte,EV6,EV7,hw,F]|simp only[EVz,seval,↓reduceIte,EV6,EV7,hw]|(with_reducible intro J I;(try(have E:=I;simp only[EVK]at E;first|(have F:=AI E F)|(have F:=E))))|(with_reducible first|refine ae ?_ ?_|refine af ?_)|(exfalso;omega)))
  refine am V (zs++[x.1,x.2],rawS b (zs++[x.1,x.2]).length cap,[(b,.cells 3 (((zs++[x.1,x.2]).map drow).flatten++pad))]) ⟨by simp;omega,?_,.inr ⟨b,cap,pad,rfl,rfl,k1,k2,k4,by simp⟩⟩ (wkS ⟨λq hq=>by simp only[mem_singleton]at hq;subst hq;exact mem_cons_self,λ_=>by simp[Store.keys]⟩)
  intro p M
  rcases mem_append.1 M with M|M
  ·exact O p M
  ·simp only[mem_cons,not_mem_nil,or_false]at M
   rcases M with rfl|rfl
   ·exact al.1
   ·exact al.2
 ·obtain⟨zs,xv,κ⟩:=c
  obtain⟨X,O,T⟩:=ag
  simp only at X O T ⊢
  have F:=True.intro
  have an:=hI zs xv κ (by omega) T
  (repeat' (first|(with_reducible (first|refine ab (λh=>?_) (λh=>?_)|refine ai (λh=>?_) (λh=>?_)|refine ak (λh=>?_) (λh=>?_))<;>(try simp only[DZ]at h))|(with_reducible refine AI (by omega) ?_)|simp only[EVz,seval,↓reduceIte,EV6,EV7,hn]|(with_reducible intro J I;(try(have E:=I;simp only[EVK]at E;first|(have F:=AI E F)|(have F:=E))))|(with_reducible first|refine ae ?_ ?_|refine af ?_)|(exfalso;omega)))
  refine dE an ?_
  rintro _ bx ⟨rfl,us,e8,bo,bp,bw⟩
  have ah:=aj.freezeQs (row:=λl:List Int=>l.map drow) (mu G us (by omega) xv bx bw bp)
  (repeat' (first|(with_reducible (first|refine ab (λh=>?_) (λh=>?_)|refine ai (λh=>?_) (λh=>?_)|refine ak (λh=>?_) (λh=>?_))<;>(try simp only[DZ]at h))|(with_reducible refine AI (by omega) ?_)|simp only[EVz,seval,↓reduceIte,EV6,EV7]|(with_reducible intro J I;(try(have E:=I;simp only[EVK]at E;first|(have F:=AI E F)|(have F:=E))))|(with_reducible first|refine ae ?_ ?_|refine af ?_)|(exfalso;omega)))
  refine dE ah ?_
  rintro _ _ ⟨rfl,N,⟨dl,e0⟩,rfl⟩
  have ac:∀y∈N,y∈D:=λy hy=>O y (bo y (e0 y hy))
  have eg:=rise_le dl ac
  have ad:(N.map drow).length=N.length:=length_map _
  clear ah an X O T e8 bo bp bw
  (repeat' (first|(with_reducible (first|refine ab (λh=>?_) (λh=>?_)|refine ai (λh=>?_) (λh=>?_)|refine ak (λh=>?_) (λh=>?_))<;>(try simp only[DZ]at h))|(with_reducible refine AI (by omega) ?_)|simp only[EVz,seval,↓reduceIte,EV6,EV7]|(with_reducible intro J I;(try(have E:=I;simp only[EVK]at E;first|(have F:=AI E F)|(have F:=E))))|(with_reducible first|refine ae ?_ ?_|refine af ?_)|(exfalso;omega)))
  refine bv (ι:=Nat×List (Int×Int)×Option Nat) (λp=>1<=p.1/\p.2.1.length<=p.1-1/\p.1<=N.length+1/\Ends D p.2.1) (λp=>N.length+1-p.1) (λp=>[(0,.lst 2 (xs.map spc)),(1,.lst 2 (ys.map spc)),(2,.sc f),(7,.lst 1 (N.map drow)),(10,.own p.2.2 255 2 (p.2.1.map spc)),(11,.int .i64 p.1)]) (λp=>tokS p.2.2 255 (p.2.1.length*2)) (1,[],none) ⟨Nat.le_refl _,Nat.zero_le _,by simp only;omega,eW D⟩ (Weak.of (by simp[dI,Env.get,AVle,aU]) (SubN.refl _)) ?_
  rintro⟨i,l,c⟩ ⟨bm,bn,e5,Y⟩
  simp only at bm bn e5 Y ⊢
  by_cases e6:i<N.length
  ·have e1:decide ((i:Int)<(N.length:Int))=true:=decide_eq_true (by omega)
   have w1:=kC (x:=i) bm (by omega)
   have w2:IntKind.i64.wrap ((i:Int)+1)=((i+1:Nat):Int):=by rw[av (by omega) (by omega)];omega
   have hg:∀j,j<N.length->∃d,(N.map drow).getD j []=[.int .i64 d]/\d∈N:=λj hj=>⟨N[j],by rw[getD_eq_getElem?_getD,getElem?_map,getElem?_eq_getElem hj];rfl,getElem_mem _⟩
   obtain⟨d0,dd,be⟩:=hg (i-1) (by omega)
   obtain⟨d2,bh,bk⟩:=hg i e6
   have q1:((i-1:Nat):Int)<(N.length:Int):=by omega
   have q2:(i:Int)<(N.length:Int):=by omega
   have ch:=f182 G xs (by omega) d0
   have cl:=f182 G ys (by omega) d0
   (repeat' (first|(with_reducible (first|refine ab (λh=>?_) (λh=>?_)|refine ai (λh=>?_) (λh=>?_)|refine ak (λh=>?_) (λh=>?_))<;>(try simp only[DZ]at h))|(with_reducible refine AI (by omega) ?_)|simp only[EVz,seval,↓reduceIte,EV6,EV7,e1,w1,w2,dd,ad,Int.toNat_natCast]|(with_reducible intro J I;(try(have E:=I;simp only[EVK]at E;first|(have F:=AI E F)|(have F:=E))))|(with_reducible first|refine ae ?_ ?_|refine af ?_)|(exfalso;omega)))
   refine bf ch ?_
   rintro _ ⟨b1,rfl⟩
   (repeat' (first|(with_reducible (first|refine ab (λh=>?_) (λh=>?_)|refine ai (λh=>?_) (λh=>?_)|refine ak (λh=>?_) (λh=>?_))<;>(try simp only[DZ]at h))|(with_reducible refine AI (by omega) ?_)|simp only[EVz,seval,↓reduceIte,EV6,EV7]|(with_reducible intro J I;(try(have E:=I;simp only[EVK]at E;first|(have F:=AI E F)|(have F:=E))))|(with_reducible first|refine ae ?_ ?_|refine af ?_)|(exfalso;omega)))
   refine bf cl ?_
   rintro _ ⟨b2,rfl⟩
   have e2:=hf b1 b2
   (repeat' (first|(with_reducible (first|refine ab (λh=>?_) (λh=>?_)|refine ai (λh=>?_) (λh=>?_)|refine ak (λh=>?_) (λh=>?_))<;>(try simp only[DZ]at h))|(with_reducible refine AI (by omega) ?_)|simp only[EVz,seval,↓reduceIte,EV6,EV7,bh,ad,w2,Int.toNat_natCast]|(with_reducible intro J I;(try(have E:=I;simp only[EVK]at E;first|(have F:=AI E F)|(have F:=E))))|(with_reducible first|refine ae ?_ ?_|refine af ?_)|(refine aD e2 ?_)|(refine⟨[[.int .i64 d0,.int .i64 d2]],rfl,(by simp),(by simp),?_⟩)|(exfalso;omega)))
   ·refine app_lst (dh I) (by rw[length_map]) rfl (by simp;omega) (λgn=>?_)
    refine⟨(i+1,l++[(d0,d2)],gn),⟨by simp only;omega,by simp only[length_append,length_cons,length_nil];omega,by simp only;omega,?_⟩,by simp only;omega,?_⟩
    ·intro p M
     rcases mem_append.1 M with M|M
     ·exact Y p M
     ·simp only[mem_singleton]at M
      subst M
      exact⟨ac _ be,ac _ bk⟩
    ·simp only[map_append,map_cons,map_nil,length_append,length_map,length_cons,length_nil,spc]
     exact Weak.rfl' _ _
   ·exact⟨(i+1,l,c),⟨by simp only;omega,by simp only;omega,by simp only;omega,Y⟩,by simp only;omega,Weak.rfl' _ _⟩
  ·have e1:decide ((i:Int)<(N.length:Int))=false:=decide_eq_false (by omega)
   have cw:=f183 G hS D h0 hF l (by omega) Y
   (repeat' (first|(with_reducible (first|refine ab (λh=>?_) (λh=>?_)|refine ai (λh=>?_) (λh=>?_)|refine ak (λh=>?_) (λh=>?_))<;>(try simp only[DZ]at h))|(with_reducible refine AI (by omega) ?_)|simp only[EVz,seval,↓reduceIte,EV6,EV7,e1,ad]|(with_reducible intro J I;(try(have E:=I;simp only[EVK]at E;first|(have F:=AI E F)|(have F:=E))))|(with_reducible first|refine ae ?_ ?_|refine af ?_)|(exfalso;omega)))
   refine fJ cw ⟨.inl (.inr ⟨rfl,rfl⟩),trivial⟩ ?_
   rintro _ ⟨ps,⟨e7,fl⟩,rfl⟩
   (repeat' (first|(with_reducible (first|refine ab (λh=>?_) (λh=>?_)|refine ai (λh=>?_) (λh=>?_)|refine ak (λh=>?_) (λh=>?_))<;>(try simp only[DZ]at h))|(with_reducible refine AI (by omega) ?_)|simp only[EVz,seval,↓reduceIte,EV6,EV7]|(with_reducible intro J I;(try(have E:=I;simp only[EVK]at E;first|(have F:=AI E F)|(have F:=E))))|(with_reducible first|refine ae ?_ ?_|refine af ?_)|(exfalso;omega)))
   all_goals exact⟨_,[],AVle.rfl' _,SubN.nil _,rfl,ps,⟨e7,by omega⟩,rfl⟩
end
def evD (n:List UInt8) (d:Dd):Bool:=decide (d.it.kind=10)&&decide (d.it.event=n)
def Sta.cs (s:Sta):List AV:=[.int .i64 s.kind,.int .i64 s.day,.str s.event]
theorem jW {α:Type} (p:α->Bool):∀{l:List α} {k:Nat},bF p l=some k->k<l.length
 |[],k,h=>by cases h
 |x::l,k,h=>by
  rw[bF]at h
  cases E:p x with
  |true=>rw[E]at h;simp only[if_true]at h;injection h with h;subst h;simp
  |false=>
   rw[E]at h
   simp only[Bool.false_eq_true,if_false]at h
   obtain⟨I,F,rfl⟩:=Option.map_eq_some_iff.1 h
   have:=jW p F
   rw[length_cons];omega
theorem Dd.cs_eq (d:Dd):d.cs=[.int .i64 d.act,.int .i64 d.item,.int .i64 d.day,.int .i64 d.it.kind,.lst 2 (d.it.at_.map Stp.cs),.lst 2 (d.it.to_.map Stp.cs),.int .i64 d.it.wh,.int .i64 d.it.nth,.int .i64 d.it.unit.id.act,.int .i64 d.it.unit.id.item,.int .i64 d.it.unit.id.n,.int .i64 d.it.unit.kind,.str d.it.unit.label,.lst 4 (d.it.unit.head.map Wd.cs),.lst 4 (d.it.unit.words.map Wd.cs),.lst 8 (d.it.unit.kids.map U.cs),
   .lst 1 (d.it.old.map srow),.lst 1 (d.it.new.map srow),.str d.it.label,.str d.it.for_,.int .i64 d.it.start.kind,.int .i64 d.it.start.day,.str d.it.start.event,.int .i64 d.it.act,.int .i64 d.it.item,.int .i64 d.it.day,.str d.it.event,.lst 25 (d.it.by_.map Itm.cs)]:=by
 unfold Dd.cs
 rw[Itm.cs_eq]
theorem Dd.cs_len (d:Dd):d.cs.length=28:=by unfold Dd.cs;simp[Itm.cs_len]
theorem Dd.cs_take (d:Dd):d.cs.take 28=d.cs:=take_of_length_le (by rw[Dd.cs_len];exact Nat.le_refl _)
section
variable (G:Glob)
theorem f311 (b:Nat) (n:List UInt8) (d:Dd):aj G Tryz.prog 311 [.agg d.cs,.sc (.pointer (some ⟨b,0,none⟩))] [(b,.cells 9 [.str n])] λr σ'=>r= .bool (evD n d)/\σ'=[(b,.cells 9 [.str n])]:=by
 refine aj.wk c311 λR E=>?_
 unfold s311 r311
 (repeat' (first|(with_reducible (refine ai (λh=>?_) (λh=>?_))<;>(try simp only[DZ]at h))|simp only[EVz,seval,↓reduceIte,EV6,EV7,Dd.cs,Itm.cs_eq]))
 all_goals(refine E _ _ (.inl (.inl ?_)) (SubN.refl _);simp_all[evD])
theorem f310k (σ:Store) (f:Value) (p:Dd->Bool) (l:List Dd) (V:l.length<9000000000000000000) (N:∀x∈l,cn G Tryz.prog f [.agg x.cs] σ λr σ'=>r= .bool (p x)/\σ'=σ):
  aj G Tryz.prog 310 [.lst 28 (l.map Dd.cs),.sc f] σ λr σ'=>r= .int .i64 (idxF p 0 l)/\σ'=σ:=by
 have F:=Dd.cs_len
 have I:=Dd.cs_take
 refine aj.wk c310 λR M=>?_
 unfold s310 r310
 (repeat' (first|(with_reducible (refine ab (λh=>?_) (λh=>?_))<;>(try simp only[DZ]at h))|simp only[EVz,seval,↓reduceIte,EV6,EV7,F,I,J.yes,J.le0,J.lt',J.get,J.row,T]|simp only[EVz,seval,↓reduceIte,EV6,EV7,F,I,O]|simp only[EVz,seval,↓reduceIte,EV6,EV7,F,I]|(refine am J () ?_ (Weak.rfl' _ _))|(refine ax l (λi r (c:Unit)=>idxF p 0 l=idxF p i r) (λi c=>[(0,.lst 28 (l.map Dd.cs)),(1,.sc f),(7,.int .i64 l.length),(8,.int .i64 i)]) (λ_ _=>σ) () rfl (Weak.rfl' _ _) (by omega) (λi x r c E J T=>?_) (λc E O=>?_))|(refine cU (N _ J.mem) ?_)))
 ·refine M _ _ (.inl (.inl ?_)) (SubN.refl _)
  rw[E,idxF,if_pos h]
 ·rw[E,idxF,h];rfl
 ·refine M _ _ (.inl (.inl ?_)) (SubN.refl _)
  rw[E];rfl
theorem f266 (n:List UInt8) (l:List Dd) (Y:l.length<1000000):
  aj G Tryz.prog 266 [.str n,.lst 28 (l.map Dd.cs)] [] (λr σ'=>σ'=[]/\∃(v:Int) (b:Bool),r= .tup [.int .i64 v,.bool b]/\(b=true->∃d∈l,d.it.day=v)):=by
 refine aj.w c266 ?_
 unfold s266 r266
 (repeat' (first|simp only[EVz,seval,↓reduceIte,EV6,EV7]|(with_reducible intro E F;(try(have I:=F;simp only[EVK]at I;(have X:=I))))))
 have O:=f310k G [(E,.cells 9 [.str n])] (.func (.func 311) #[] #[.pointer (some ⟨E,0,none⟩)]) (evD n) l (by omega) (λx Z=>⟨_,_,_,rfl,f311 G E n x⟩)
 refine cU O.v ?_
 cases M:bF (evD n) l with
 |none=>
  rw[lF _ _ _ M]
  (repeat' (simp only[EVz,seval,↓reduceIte,EV6,EV7]))
  all_goals exact⟨_,[],AVle.rfl' _,SubN.nil _,rfl,0,false,rfl,λh=>by cases h⟩
 |some k=>
  have V:=jW _ M
  rw[gV _ _ _ _ M,Nat.zero_add]
  have N:decide ((k:Int)<0)=false:=decide_eq_false (by omega)
  obtain⟨d,T,J⟩:∃d,(l.map Dd.cs).getD k []=d.cs/\d∈l:=⟨l[k],by rw[getD_eq_getElem?_getD,getElem?_map,getElem?_eq_getElem V];rfl,getElem_mem _⟩
  (repeat' (first|(with_reducible refine AI (by omega) ?_)|simp only[EVz,seval,↓reduceIte,EV6,EV7,N,T,Dd.cs,Itm.cs_eq,Int.toNat_natCast]))
  all_goals exact⟨_,[],AVle.rfl' _,SubN.nil _,rfl,d.it.day,true,rfl,λ_=>⟨d,J,rfl⟩⟩
def DayIn (D:List Int) (l:List Dd):Prop:=∀d∈l,d.it.day∈D
theorem f222 (D:List Int) (O:fL G D) (N:(0:Int)∈D) (V:(1048577:Int)∈D) (E:D.length<10000) (s:Sta) (Z:s.day∈D) (l:List Dd) (Y:l.length<1000000) (T:DayIn D l):
  aj G Tryz.prog 222 [.agg s.cs,.lst 28 (l.map Dd.cs)] [] (λr σ'=>σ'=[]/\Spn D D.length r):=by
 have J:=λd F=>f265 G D O N V E [] (by simp) (eW D) d F
 have X:=f266 G s.event l Y
 have M:RET (.nil) [] (λr σ'=>σ'=[]/\Spn D D.length r):=⟨.lst 2 [],[],.inl (.inr rfl),SubN.refl _,rfl,[],⟨eW D,by simp⟩,rfl⟩
 refine aj.w c222 ?_
 unfold s222 r222
 unfold Sta.cs
 (repeat' (first|(with_reducible (refine ab (λh=>?_) (λh=>?_))<;>(try simp only[DZ]at h))|simp only[EVz,seval,↓reduceIte,EV6,EV7]))
 ·refine fJ (J s.day Z) ⟨.inl (.inr rfl),AVle.rfl' _,trivial⟩ ?_
  rintro r I
  (repeat' (simp only[EVz,seval,↓reduceIte,EV6,EV7]))
  all_goals exact retI ⟨rfl,I⟩
 ·refine bf X ?_
  rintro _ ⟨v,b,rfl,hv⟩
  cases b with
  |false=>
   (repeat' (simp only[EVz,seval,↓reduceIte,EV6,EV7]))
   all_goals exact M
  |true=>
   obtain⟨d,F,rfl⟩:=hv rfl
   (repeat' (simp only[EVz,seval,↓reduceIte,EV6,EV7]))
   refine fJ (J d.it.day (T d F)) ⟨.inl (.inr rfl),AVle.rfl' _,trivial⟩ ?_
   rintro r I
   (repeat' (simp only[EVz,seval,↓reduceIte,EV6,EV7]))
   all_goals exact retI ⟨rfl,I⟩
 ·exact M
theorem f223 (a b:Sta):Pure G Tryz.prog 223 [.agg a.cs,.agg b.cs] (.agg (if b.kind=0 then a else b).cs):=by
 refine Pure.w c223 λR I=>?_
 unfold s223 r223
 unfold Sta.cs
 (repeat' (first|(with_reducible (refine ab (λh=>?_) (λh=>?_))<;>(try simp only[DZ]at h))|simp only[EVz,seval,↓reduceIte,EV6,EV7]|(with_reducible intro J E;(try(have F:=E;simp only[EVK]at F;(have M:=F))))))
 ·rw[if_neg h]at I;exact RQ I
 ·rw[if_pos (by omega)]at I;exact RQ I
theorem f225 (x:Itm) (a b:Int):aj G Tryz.prog 225 [.agg x.cs,.int .i64 a,.int .i64 b] [] (λr σ'=>σ'=[]/\∃b,r= .bool b):=by
 have F:=f224 G
 refine aj.w c225 ?_
 unfold s225 r225
 rw[Itm.cs_eq]
 (repeat' (first|(with_reducible (refine ab (λh=>?_) (λh=>?_))<;>(try simp only[DZ]at h))|simp only[EVz,seval,↓reduceIte,EV6,EV7]))
 ·exact retI ⟨rfl,_,rfl⟩
 ·exact retI ⟨rfl,_,rfl⟩
 ·refine dE F ?_
  rintro _ _ ⟨J,rfl,rfl⟩
  obtain⟨V,I⟩:∃V,(aN x.kind cL).getD (.sc .nilFunc)=V:=⟨_,rfl⟩
  obtain⟨B,E⟩:∃B,(aN x.kind cL).isSome=B:=⟨_,rfl⟩
  (repeat' (first|(with_reducible (refine ai (λh=>?_) (λh=>?_))<;>(try simp only[DZ]at h))|simp only[EVz,seval,↓reduceIte,EV6,EV7,I,E]|(refine aC eJ (l:=cL) (k:=x.kind) (z:=.nilFunc) (zv:=.sc .nilFunc) rfl (λ_ _ _ h=>jj h) (eT:=247) (by kernel_rfl) aH (by kernel_rfl) (λ_ _=>by simp only[Rep]) ?_)))
  all_goals exact⟨_,[],AVle.rfl' _,SubN.nil _,rfl,_,rfl⟩
theorem oK (k:Int):aN k cL=none\/aN k cL=some (.sc (.func (.func 267) #[] #[]))\/aN k cL=some (.sc (.func (.func 265) #[] #[])):=by
 have e:cL=[(7,.sc (.func (.func 265) #[] #[])),(9,.sc (.func (.func 265) #[] #[])),(8,.sc (.func (.func 267) #[] #[]))]:=by
  simp[cL,bu]
 rw[e]
 simp only[aN]
 split
 ·exact .inr (.inr rfl)
 split
 ·exact .inr (.inr rfl)
 split
 ·exact .inr (.inl rfl)
 ·exact .inl rfl
set_option maxRecDepth 8000 in
set_option maxHeartbeats 8000000 in
theorem f181 (D:List Int) (hB:fL G D) (h0:(0:Int)∈D) (hF:(1048577:Int)∈D) (hDl:D.length<10000) (a:Sta) (ha:a.day∈D) (d:Dd) (hd:d.it.start.day∈D) (l:List Dd) (hl:l.length<1000000) (hD:DayIn D l):
  aj G Tryz.prog 181 [.agg a.cs,.agg d.cs,.lst 28 (l.map Dd.cs)] [] (λr σ'=>σ'=[]/\Spn D D.length r):=by
 have hN:RET (.nil) [] (λr σ'=>σ'=[]/\Spn D D.length r):=⟨.lst 2 [],[],.inl (.inr rfl),SubN.refl _,rfl,[],⟨eW D,by simp⟩,rfl⟩
 have hS:=f223 G a d.it.start
 obtain⟨s,hs⟩:∃s,(if d.it.start.kind=0 then a else d.it.start)=s:=⟨_,rfl⟩
 have hsD:s.day∈D:=by
  rw[←hs]
  split
  ·exact ha
  ·exact hd
 rw[hs]at hS
 have hI:=f222 G D hB h0 hF hDl s hsD l hl hD
 have hT:=f224 G
 simp only[Sta.cs]at hS hI
 refine aj.w c181 ?_
 unfold s181 r181
 unfold Sta.cs
 rw[Dd.cs_eq d]
 (repeat' (first|(with_reducible (first|refine ab (λh=>?_) (λh=>?_)|refine ai (λh=>?_) (λh=>?_))<;>(try simp only[DZ]at h))|(with_reducible refine aa hS ?_)|simp only[EVz,seval,↓reduceIte,EV6,EV7]))
 ·exact hN
 ·refine bf hI ?_
  rintro _ ⟨ps,⟨hp1,hp2⟩,rfl⟩
  (repeat' (simp only[EVz,seval,↓reduceIte,EV6,EV7]))
  refine ax (ι:=List (Int×Int)) l (λi r c=>Ends D c/\c.length<=D.length) (λi c=>[(4,.ref [.int .i64 d.act,.int .i64 d.item,.int .i64 d.day,.int .i64 d.it.kind,.lst 2 (d.it.at_.map Stp.cs),.lst 2 (d.it.to_.map Stp.cs),.int .i64 d.it.wh,.int .i64 d.it.nth,.int .i64 d.it.unit.id.act,.int .i64 d.it.unit.id.item,.int .i64 d.it.unit.id.n,.int .i64 d.it.unit.kind,.str d.it.unit.label,.lst 4 (d.it.unit.head.map Wd.cs),.lst 4 (d.it.unit.words.map Wd.cs),.lst 8 (d.it.unit.kids.map U.cs),
   .lst 1 (d.it.old.map srow),.lst 1 (d.it.new.map srow),.str d.it.label,.str d.it.for_,.int .i64 d.it.start.kind,.int .i64 d.it.start.day,.str d.it.start.event,.int .i64 d.it.act,.int .i64 d.it.item,.int .i64 d.it.day,.str d.it.event,.lst 25 (d.it.by_.map Itm.cs)]),(7,.lst 2 (c.map spc)),(29,.lst 28 (l.map Dd.cs)),(30,.int .i64 l.length),(31,.int .i64 i)]) (λi c=>[]) ps ⟨hp1,hp2⟩ (Weak.rfl' _ _) (by omega) (λi x r c hok hx hw=>?_) (λc hok hn=>?_)
  ·clear hp1 hp2 hS hI hN ps
   obtain⟨hc1,hc2⟩:=hok
   have hxD:=hD x hx.mem
   have hRf:=f225 G x.it d.act d.item
   rw[Itm.cs_eq]at hRf
   have hTr:=f267 G D hB h0 c (by omega) hc1 x.it.day hxD
   have hEx:=f265 G D hB h0 hF hDl c (by omega) hc1 x.it.day hxD
   rcases oK x.it.kind with hm|hm|hm
   ·(repeat' (first|simp only[EVz,seval,↓reduceIte,EV6,EV7,hx.yes,hx.le0,hx.lt',hx.get,hx.row,hw,Dd.cs_eq,hm,Option.getD_none,Option.isSome_none,Option.getD_some,Option.isSome_some,hne]|simp only[EVz,seval,↓reduceIte,EV6,EV7,hx.yes,hx.le0,hx.lt',hx.get,hx.row,hw,Dd.cs_eq,hm,Option.getD_none,Option.isSome_none,Option.getD_some,Option.isSome_some]|(with_reducible intro blk hblk;(try(have hnx:=hblk;simp only[EVK]at hnx;(have hne:=hnx))))|(with_reducible first|refine ae ?_ ?_|refine af ?_)|(refine ay [] _ hT.v (aA.rfl' _) (SubN.refl _) (λr σ' hh hnd=>?_);obtain⟨bm,rfl,rfl⟩:=hh;(have hne:=hnd);(try simp[Store.keys]at hne))|(refine aC eJ (l:=cL) (k:=x.it.kind) (z:=.nilFunc) (zv:=.sc .nilFunc) rfl (λ_ _ _ h=>jj h) (eT:=247) (by kernel_rfl) aH (by kernel_rfl) (λ_ _=>by simp only[Rep]) ?_)))
    all_goals exact am hx c ⟨hc1,hc2⟩ (Weak.sub (SubN.nil _))
   ·(repeat' (first|(with_reducible (refine ab (λh=>?_) (λh=>?_))<;>(try simp only[DZ]at h))|simp only[EVz,seval,↓reduceIte,EV6,EV7,hx.yes,hx.le0,hx.lt',hx.get,hx.row,hw,Dd.cs_eq,hm,Option.getD_none,Option.isSome_none,Option.getD_some,Option.isSome_some,hne]|simp only[EVz,seval,↓reduceIte,EV6,EV7,hx.yes,hx.le0,hx.lt',hx.get,hx.row,hw,Dd.cs_eq,hm,Option.getD_none,Option.isSome_none,Option.getD_some,Option.isSome_some]|(with_reducible intro blk hblk;(try(have hnx:=hblk;simp only[EVK]at hnx;(have hne:=hnx))))|(with_reducible first|refine ae ?_ ?_|refine af ?_)|(refine ay [] _ hT.v (aA.rfl' _) (SubN.refl _) (λr σ' hh hnd=>?_);obtain⟨bm,rfl,rfl⟩:=hh;(have hne:=hnd);(try simp[Store.keys]at hne))|(refine aC eJ (l:=cL) (k:=x.it.kind) (z:=.nilFunc) (zv:=.sc .nilFunc) rfl (λ_ _ _ h=>jj h) (eT:=247) (by kernel_rfl) aH (by kernel_rfl) (λ_ _=>by simp only[Rep]) ?_)|(refine bf hRf ?_;(rintro _ ⟨bb,rfl⟩))|(refine bf hTr ?_;(rintro _ ⟨ps,⟨hp1,hp2⟩,rfl⟩))))
    all_goals first|exact am hx c ⟨hc1,hc2⟩ (Weak.sub (SubN.nil _))|exact am hx ps ⟨hp1,hp2⟩ (Weak.sub (SubN.nil _))
   ·(repeat' (first|(with_reducible (refine ab (λh=>?_) (λh=>?_))<;>(try simp only[DZ]at h))|simp only[EVz,seval,↓reduceIte,EV6,EV7,hx.yes,hx.le0,hx.lt',hx.get,hx.row,hw,Dd.cs_eq,hm,Option.getD_none,Option.isSome_none,Option.getD_some,Option.isSome_some,hne]|simp only[EVz,seval,↓reduceIte,EV6,EV7,hx.yes,hx.le0,hx.lt',hx.get,hx.row,hw,Dd.cs_eq,hm,Option.getD_none,Option.isSome_none,Option.getD_some,Option.isSome_some]|(with_reducible intro blk hblk;(try(have hnx:=hblk;simp only[EVK]at hnx;(have hne:=hnx))))|(with_reducible first|refine ae ?_ ?_|refine af ?_)|(refine ay [] _ hT.v (aA.rfl' _) (SubN.refl _) (λr σ' hh hnd=>?_);obtain⟨bm,rfl,rfl⟩:=hh;(have hne:=hnd);(try simp[Store.keys]at hne))|(refine aC eJ (l:=cL) (k:=x.it.kind) (z:=.nilFunc) (zv:=.sc .nilFunc) rfl (λ_ _ _ h=>jj h) (eT:=247) (by kernel_rfl) aH (by kernel_rfl) (λ_ _=>by simp only[Rep]) ?_)|(refine bf hRf ?_;(rintro _ ⟨bb,rfl⟩))|(refine bf hEx ?_;(rintro _ ⟨ps,⟨hp1,hp2⟩,rfl⟩))))
    all_goals first|exact am hx c ⟨hc1,hc2⟩ (Weak.sub (SubN.nil _))|exact am hx ps ⟨hp1,hp2⟩ (Weak.sub (SubN.nil _))
  ·(repeat' (simp only[EVz,seval,↓reduceIte,EV6,EV7,hn]))
   all_goals exact retI ⟨rfl,c,hok,rfl⟩
 ·exact hN
end
end Go.Av
namespace Go.Av
open Go Go.RowKit List
set_option linter.unusedSimpArgs false
set_option linter.unusedVariables false
def fnV (k:Nat):AV:=.sc (.func (.func k) #[] #[])
section
variable {G:Glob} {P:Program}
theorem oo {t e:TypeId} {f1 f2 f3 f4:Nat} {env:Env} {σ:Store} {K:AV->Store->Prop} (O:P.underlying t=some (.array 4 e)) (I:(P.info? t).bind (·.zero)=some (.agg #[.nilFunc,.nilFunc,.nilFunc,.nilFunc]))
  (N:aZ P e=some 1) (J:K (.agg [fnV f1,fnV f2,fnV f3,fnV f4]) σ):RAW G P (.build t #[(0,.func f1),(1,.func f2),(2,.func f3),(3,.func f4)]) env σ K ⟨⟩:=by
 refine ca _ (λρ w T op M X V=>?_) J
 refine⟨.agg #[.func (.func f1) #[] #[],.func (.func f2) #[] #[],.func (.func f3) #[] #[],.func (.func f4) #[] #[]],?_,?_⟩
 ·obtain⟨i,hi,E⟩:∃i,P.info? t=some i/\i.zero=some (.agg #[.nilFunc,.nilFunc,.nilFunc,.nilFunc]):=by
   cases h:P.info? t with
   |none=>simp[h]at I
   |some i=>exact⟨i,rfl,by simpa[h]using I⟩
  have F:(zeroValue t).run P w= .ok (.agg #[.nilFunc,.nilFunc,.nilFunc,.nilFunc]) w:=by simp[zeroValue,typeInfo,hi,E]
  simp[execOp,M,Instr.build,F,run_underlying O,ba N,Act.eval]
  rfl
 ·simp only[fnV,Rep,RepL]
  refine⟨_,rfl,by simp[Value.oneCell'],_,_,rfl,rfl,_,_,rfl,rfl,_,_,rfl,rfl,_,_,rfl,rfl,rfl⟩
theorem bg {t e:TypeId} {L:Nat} {i j:Nat} {n:Nat} {kc:IntKind} {cs:List AV} {env:Env} {σ:Store} {K:AV->Store->Prop} (hi:env.get i= .agg cs) (hj:env.get j= .int kc (n:Int)) (hu:P.underlying t=some (.array L e)) (F:(P.underlying e).map aggD=some false)
  (hs:aZ P e=some 1) (hl:cs.length=L) (hn:n<L) (hk:K (cs.getD n .any) σ):RAW G P (.index t (.tmp i) (.tmp j)) env σ K ⟨⟩:=by
 obtain⟨d,F,X⟩:∃d,P.underlying e=some d/\aggD d=false:=by
  cases h:P.underlying e with
  |none=>simp[h]at F
  |some d=>exact⟨d,rfl,by simpa[h]using F⟩
 refine ca _ (λρ w T op ho hS V=>?_) hk
 have J:=V i
 have M:=V j
 rw[hi]at J
 rw[hj]at M
 simp only[Rep]at J M
 obtain⟨vs,I,ad,hr⟩:=J
 have E:=hr.length
 have O:n+1<=vs.size:=by simp at E;omega
 have I:T.eval (.tmp i)= .agg vs:=I
 have e2:T.eval (.tmp j)= .int kc n:=M
 refine⟨(vs.toList.drop n).headD undef,?_,?_⟩
 ·have Z:=fF F hs vs n (by rw[X];rfl) O w
  rw[X]at Z
  have hb:(0:Int)<=n/\(n:Int)<L:=by omega
  have N:=ba hs w
  simp[execOp,ho,Instr.index,I,e2,asIntOf,run_underlying hu,hb,N,Z]
  intro h;omega
 ·have Y:n<cs.length:=by omega
  have g:=hr.get n Y (by simp at E ⊢;omega)
  have e3:(vs.toList.drop n).headD undef=vs.toList[n]'(by simp;omega):=by
   rw[drop_eq_getElem_cons (by simp;omega)];rfl
  rw[e3,getD_eq_getElem?_getD,getElem?_eq_getElem Y]
  exact g
end
theorem SubN.pull1 {x:Nat×AObj} {κ σ:Store}:SubN (x::(κ++σ)) (κ++x::σ):=SubN.perm perm_middle.symm
theorem SubN.pull2 {x y:Nat×AObj} {κ σ:Store}:SubN (x::y::(κ++σ)) (κ++x::y::σ):=SubN.trans (SubN.cons SubN.pull1 _) SubN.pull1
theorem SubN.pull2' {x y:Nat×AObj} {κ σ:Store}:SubN (y::x::(κ++σ)) (κ++x::y::σ):=SubN.trans (SubN.perm (List.Perm.swap _ _ _)) SubN.pull2
theorem SubN.push {x y:Nat×AObj} {l:Store}:SubN ((x::l)++[y]) (x::y::l):=by
 rw[cons_append]
 exact SubN.cons (SubN.perm (perm_append_comm (l₁:=l) (l₂:=[y]))) _
theorem SubN.pop {x y:Nat×AObj} {l:Store}:SubN (x::y::l) ((x::l)++[y]):=by
 rw[cons_append]
 exact SubN.cons (SubN.perm (perm_append_comm (l₁:=[y]) (l₂:=l))) _
theorem SubN.push' {x y:Nat×AObj} {κ σ:Store}:SubN ((x::(σ++κ))++[y]) (x::y::(κ++σ)):=
 SubN.trans (SubN.push) (SubN.cons (SubN.cons (SubN.perm perm_append_comm) _) _)
theorem SubN.pop' {x y:Nat×AObj} {κ σ:Store}:SubN (x::y::(κ++σ)) ((x::(σ++κ))++[y]):=
 SubN.trans (SubN.cons (SubN.cons (SubN.perm perm_append_comm) _) _) SubN.pop
section
variable {G:Glob} {P:Program}
theorem aj.fr {k:FuncId} {args:List AV} {M:Store} {R R2:AV->Store->Prop} (σr:Store) (h:aj G P k args M R)
  (hk:∀r σ',R r σ'->(σ'++σr:Store).keys.Nodup->∃F,SubN F (σ'++σr)/\R2 r F):aj G P k args (M++σr) R2:=
 ⟨h.1,λρ w vs V T=>by
  rw[append_assoc]at V T
  refine(h.2 (σr++ρ) w vs V T).mono λe w' ⟨v,r,σ',he,Z,X,O,I⟩=>?_
  have E:Sat G ((σ'++σr)++ρ) w':=by rwa [append_assoc]
  obtain⟨F,N,Y⟩:=hk r σ' Z E.nodup_left
  rw[←append_assoc]at I
  exact⟨v,r,F,he,Y,E.subN N,(O.frame (λq J=>J)).trans (Ev.of_sub N.1 w'),Rep.sub (λq J=>by
   rcases mem_append.1 J with J|J
   ·exact mem_append.2 (.inl (N.1 q J))
   ·exact mem_append.2 (.inr J)) I⟩⟩
theorem cn.fr {f:Value} {args:List AV} {F:Store} {R R2:AV->Store->Prop} (σr:Store) (h:cn G P f args F R)
  (I:∀r σ',R r σ'->(σ'++σr:Store).keys.Nodup->∃E,SubN E (σ'++σr)/\R2 r E):cn G P f args (F++σr) R2:=by
 obtain⟨k,a,b,e,h⟩:=h
 exact⟨k,a,b,e,h.fr σr I⟩
theorem bC {f:Value} {args E:List AV} {σ:Store} {K:AV->Store->Prop} {t:Tag K} {R:AV->Store->Prop} (F σr:Store)
  (h:cn G P f E F R) (J:aA args E) (N:SubN (F++σr) σ) (M:∀r σ',R r σ'->(σ'++σr:Store).keys.Nodup->∃I,SubN I (σ'++σr)/\K r I):CALL G P f args σ K t:=
 aP (F++σr) [] (h.fr σr M) J (by rwa [append_nil]) (λr σ' h=>by rwa [append_nil])
end
end Go.Av

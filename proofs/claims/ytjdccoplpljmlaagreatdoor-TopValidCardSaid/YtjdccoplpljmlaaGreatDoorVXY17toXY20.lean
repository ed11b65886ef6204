/-
  TOP, 17: the acts that count, in legal order (which: some of those published; how many: no more).
-/
import Derived.Test.YtjdccoplpljmlaaGreatDoorVXY3toXY5
import Derived.Test.YtjdccoplpljmlaaGreatDoorVXY10toXL27
import Derived.Test.YtjdccoplpljmlaaGreatDoorVXL30toXL32
import Derived.Test.YtjdccoplpljmlaaGreatDoorVXL29toXL28
namespace Go.Av
open Go Go.RowKit Go.Proofs List
set_option linter.unusedSimpArgs false
set_option linter.unusedVariables false
structure Gz where
 number:Int
 day:Int
 prior:List UInt8
 acts:List Ac
def Gz.cs (g:Gz):List AV:=[.int .i64 g.number,.int .i64 g.day,.str g.prior,.lst 7 (g.acts.map Ac.cs)]
def WL {α:Type} (e:TypeId) (sz:Nat) (row:α->List AV) (zs:List α) (xv:AV) (κ:Store):Prop:=
 (zs=[]/\κ=[]/\xv= .nil)\/∃b cap pad,xv=rawS b zs.length cap/\κ=[(b,.cells e ((zs.map row).flatten++pad))]/\zs.length<=cap/\cap<=maxLen/\((zs.map row).flatten++pad).length=cap*sz/\1<=zs.length
theorem WL.ws {α:Type} {e:TypeId} {sz:Nat} {row:α->List AV} {zs:List α} {xv:AV} {κ:Store} (N:∀a,(row a).length=sz) (h:WL e sz row zs xv κ):∃g,WS κ e sz xv (zs.map row) g/\(∀b,g=some b->κ.keys=[b])/\(g=none->κ=[])/\(∀b,g=some b->κ.erase (some b)=[]):=by
 have F:∀r∈zs.map row,r.length=sz:=λr h=>by obtain⟨a,_,rfl⟩:=mem_map.1 h;exact N a
 rcases h with⟨rfl,rfl,rfl⟩|⟨b,cap,pad,rfl,rfl,I,J,M,_⟩
 ·exact⟨none,.inl ⟨rfl,rfl,.inl rfl⟩,λb h=>(by cases h),λ_=>rfl,λb h=>(by cases h)⟩
 ·exact⟨some b,.inr ⟨b,cap,pad,rfl,by rw[length_map],by simp[Store.get],F,M,by rw[length_map];exact I,J⟩,λq E=>by injection E with E;subst E;rfl,λh=>(by cases h),λq E=>by injection E with E;subst E;simp[Store.erase]⟩
theorem Ac.cs_len (a:Ac):a.cs.length=7:=rfl
def MB (l:List (Int×AV)):Prop:=∀p∈l,∃b,p.2= .bool b
theorem MB.get {l:List (Int×AV)} (h:MB l) (k:Int):∃b,(aN k l).getD (.bool false)= .bool b:=by
 induction l with
 |nil=>exact⟨false,rfl⟩
 |cons p l ih=>
  simp only[aN]
  split
  ·exact h p (by simp)
  ·exact ih λq E=>h q (by simp[E])
theorem MB.put {l:List (Int×AV)} (h:MB l) (k:Int) (b:Bool):MB (bu k (.bool b) l):=by
 induction l with
 |nil=>intro p E;simp only[bu,mem_singleton]at E;subst E;exact⟨b,rfl⟩
 |cons q l ih=>
  simp only[bu]
  split
  ·intro p E
   rcases mem_cons.1 E with rfl|E
   ·exact⟨b,rfl⟩
   ·exact h p (by simp[E])
  ·intro p E
   rcases mem_cons.1 E with rfl|E
   ·exact h p (by simp)
   ·exact ih (λq F=>h q (by simp[F])) p E
abbrev WA:=WL 100 7 Ac.cs
section
variable (G:Glob)
theorem f217 (a b:Ac):∃k:Int,Pure G Tryz.prog 217 [.agg a.cs,.agg b.cs] (.int .i64 k):=by
 have M:=f219 G a.day b.day
 have N:=f219 G a.number b.number
 have O:=f218 G [cmpI a.day b.day,cmpI a.number b.number] (by simp)
 refine⟨orI [cmpI a.day b.day,cmpI a.number b.number],?_⟩
 generalize cmpI a.day b.day=x at*
 generalize cmpI a.number b.number=y at*
 refine Pure.w c217 λR T=>?_
 unfold s217 r217
 (repeat' (first|(with_reducible (first|refine ab (λh=>?_) (λh=>?_)|refine ai (λh=>?_) (λh=>?_)|refine ak (λh=>?_) (λh=>?_))<;>(try simp only[DZ]at h))|(with_reducible first|refine AI (by omega) ?_|refine aa M ?_|refine aa N ?_)|simp only[EVz,seval,↓reduceIte,EV6,EV7,Ac.cs]|(with_reducible intro J F;(try(have E:=F;simp only[EVK]at E;first|(have I:=AI E I)|(have I:=E))))|(with_reducible first|refine ae ?_ ?_|refine af ?_)|(refine⟨[[.int .i64 x],[.int .i64 y]],rfl,(by simp),(by simp),?_⟩)|(refine aI O ⟨.inl (.inr ⟨rfl,rfl⟩),trivial⟩ ?_)|(exfalso;omega)))
 all_goals exact RQ T
set_option maxHeartbeats 4000000 in
theorem f215 (O:Nat) (a:Ac) (J:Bool) (zs:List Ac) (xv:AV) (κ:Store) (hW:WA zs xv κ) (hl:zs.length<100000):
  aj G Tryz.prog 215 [.agg a.cs,.bool J,.sc (.pointer (some ⟨O,0,none⟩))] ((O,.cells 96 [xv])::κ)
   (λr σ'=>r= .tup []/\∃X Z ac,(X=zs\/X=zs++[a])/\WA X Z ac/\σ'=(O,.cells 96 [Z])::ac):=by
 refine aj.wn c215w (λV=>?_)
 unfold s215w r215w
 obtain⟨g,ad,T,ag,ah⟩:=hW.ws Ac.cs_len
 have F:=True.intro
 have Y:∀b,g=some b->b≠O:=λb N e=>by
  have:=T b N
  simp only[Store.keys,map_cons,nodup_cons]at V this
  rw[this]at V
  simp[e]at V
 cases J with
 |true=>
  (repeat' (first|(with_reducible (first|refine ab (λh=>?_) (λh=>?_)|refine ai (λh=>?_) (λh=>?_)|refine ak (λh=>?_) (λh=>?_))<;>(try simp only[DZ]at h))|(with_reducible refine AI (by omega) ?_)|simp only[EVz,seval,↓reduceIte,EV6,EV7,F]|simp only[EVz,seval,↓reduceIte,EV6,EV7]|(with_reducible intro M I;(try(have E:=I;simp only[EVK]at E;first|(have F:=AI E F)|(have F:=E))))|(with_reducible first|refine ae ?_ ?_|refine af ?_)|(exfalso;omega)))
  all_goals exact⟨rfl,retI ⟨rfl,zs,xv,κ,.inl rfl,hW,rfl⟩⟩
 |false=>
  (repeat' (first|(with_reducible (first|refine ab (λh=>?_) (λh=>?_)|refine ai (λh=>?_) (λh=>?_)|refine ak (λh=>?_) (λh=>?_))<;>(try simp only[DZ]at h))|(with_reducible refine AI (by omega) ?_)|simp only[EVz,seval,↓reduceIte,EV6,EV7,Ac.cs,F]|simp only[EVz,seval,↓reduceIte,EV6,EV7,Ac.cs]|(with_reducible intro M I;(try(have E:=I;simp only[EVK]at E;first|(have F:=AI E F)|(have F:=E))))|(with_reducible first|refine ae ?_ ?_|refine af ?_)|(refine⟨[a.cs],rfl,(by simp[Ac.cs_len]),(by first|rfl|simp[Ac.cs]),?_⟩)|(exfalso;omega)))
  refine aY (e:=100) (e':=100) (sz:=7) (bytes:=88) (rows:=zs.map Ac.cs) (ys:=[a.cs]) (g:=g) (xv:=xv) (by kernel_rfl) (by kernel_rfl) (by kernel_rfl) (by kernel_rfl) (by decide) (by decide) rfl (ad.more [(M,_),(O,_)] (λb N=>by have h1:=T b N;have h2:=Y b N;rw[h1]at E;simp at E;simp[Store.keys];exact⟨λe=>E.2 e.symm,h2⟩)) ⟨rfl,rfl⟩ (by simp;omega) (λ_ h=>by cases h) (λb cap pad N k1 k2 k3 k4=>?_)
  have e:zs.map Ac.cs++[a.cs]=(zs++[a]).map Ac.cs:=by simp
  rw[e]at k1 k3 k4 ⊢
  rw[length_map]at k1 ⊢
  have q1:Store.erase ((M,AObj.tok 100 7)::(O,.cells 96 [xv])::κ) g=(M,AObj.tok 100 7)::(O,.cells 96 [xv])::κ.erase g:=by
   cases g with
   |none=>rfl
   |some d=>
    have h1:=T d rfl
    rw[h1]at E
    rw[fh,if_neg (by simpa using E.2),fh,if_neg (λe=>Y d rfl e.symm)]
  have q2:κ.erase g=[]:=by
   cases g with
   |none=>exact ag rfl
   |some d=>exact ah d rfl
  rw[q1,q2]at N ⊢
  simp[Store.keys]at N
  (repeat' (first|(with_reducible (first|refine ab (λh=>?_) (λh=>?_)|refine ai (λh=>?_) (λh=>?_)|refine ak (λh=>?_) (λh=>?_))<;>(try simp only[DZ]at h))|(with_reducible refine AI (by omega) ?_)|simp only[EVz,seval,↓reduceIte,EV6,EV7,N,F]|simp only[EVz,seval,↓reduceIte,EV6,EV7,N]|(with_reducible intro M I;(try(have E:=I;simp only[EVK]at E;first|(have F:=AI E F)|(have F:=E))))|(with_reducible first|refine ae ?_ ?_|refine af ?_)|(exfalso;omega)))
  exact⟨.tup [],[(O,_),(b,_)],AVle.rfl' _,⟨λq hq=>(by simp only[mem_cons,not_mem_nil,or_false]at hq ⊢;rcases hq with rfl|rfl<;>simp),λ_=>(by simp[Store.keys];exact λe=>N.2 e.symm)⟩,rfl,zs++[a],_,_,.inr rfl,.inr ⟨b,cap,pad,rfl,rfl,k1,k2,k4,by simp⟩,rfl⟩
theorem subBack {x y z:Nat×AObj} {κ:Store}:SubN (z::x::κ) (x::(κ++[y,z])):=
 SubN.trans (SubN.perm (perm_append_singleton z (x::κ)).symm) (SubN.app (a:=x::κ) (SubN.tail (SubN.refl [z]) y))
abbrev tellF (E:Nat):Value:=.func (.func 215) #[] #[.pointer (some ⟨E,0,none⟩)]
theorem tellV (M:Nat) (a:Ac) (E:Bool) (zs:List Ac) (xv:AV) (κ:Store) (N:WA zs xv κ) (O:zs.length<100000):
  cn G Tryz.prog (tellF M) [.agg a.cs,.bool E] ((M,.cells 96 [xv])::κ) (λr σ'=>r= .tup []/\∃F I J,(F=zs\/F=zs++[a])/\WA F I J/\σ'=(M,.cells 96 [I])::J):=
 ⟨_,_,_,rfl,f215 G M a E zs xv κ N O⟩
theorem jj {τ:Store} {w:World} {n:Int} {v:Value} (h:Rep τ w (.int .i64 n) v):v=keyI n:=by simpa only[Rep]using h
set_option maxHeartbeats 8000000 in
theorem f214 (bo:Nat) (gs:List Gz) (bk:gs.length<=8) (bb:∀g∈gs,g.acts.length<=8):
  aj G Tryz.prog 214 [.lst 4 (gs.map Gz.cs),.sc (tellF bo)] [(bo,.cells 96 [.nil])]
   (λr σ'=>r= .tup []/\∃zs xv κ,(∀a∈zs,∃g∈gs,a∈g.acts)/\zs.length<=64/\WA zs xv κ/\σ'=(bo,.cells 96 [xv])::κ):=by
 refine aj.wn c214 (λbp=>?_)
 unfold s214 r214
 (try simp only[EVz,seval,↓reduceIte,EV6,EV7])
 refine cc ?_
 intro bm bh
 (repeat' (first|(with_reducible (first|refine ab (λh=>?_) (λh=>?_)|refine ai (λh=>?_) (λh=>?_)|refine ak (λh=>?_) (λh=>?_))<;>(try simp only[DZ]at h))|(with_reducible refine AI (by omega) ?_)|simp only[EVz,seval,↓reduceIte,EV6,EV7]|(with_reducible intro J I;(try(have E:=I;simp only[EVK]at E;first|(have F:=AI E F)|(have F:=E))))|(with_reducible first|refine ae ?_ ?_|refine af ?_)|(exfalso;omega)))
 refine ax (ι:=List Ac×AV×Store×List (Int×AV)) gs (λi r c=>(∀a∈c.1,∃g∈gs,a∈g.acts)/\c.1.length<=8*i/\WA c.1 c.2.1 c.2.2.1/\MB c.2.2.2) (λi c=>[(1,.sc (tellF bo)),(4,.sc (.map (some bm))),(10,.lst 4 (gs.map Gz.cs)),(11,.int .i64 gs.length),(12,.int .i64 i)]) (λi c=>(bm,.map (bB keyI c.2.2.2))::(bo,.cells 96 [c.2.1])::c.2.2.1) ([],.nil,[],[]) ⟨(λa ha=>by cases ha),Nat.zero_le _,.inl ⟨rfl,rfl,rfl⟩,λp hp=>by cases hp⟩ (Weak.rfl' _ _) (by omega) (λi x r c V hx hw=>?_) (λc V hn=>?_)
 ·obtain⟨zs,xv,κ,l⟩:=c
  obtain⟨M,T,N,O⟩:=V
  simp only at M T N O ⊢
  have F:=True.intro
  have bn:=hx.lt
  have bw:=bb x hx.mem
  (repeat' (first|(with_reducible (first|refine ab (λh=>?_) (λh=>?_)|refine ai (λh=>?_) (λh=>?_)|refine ak (λh=>?_) (λh=>?_))<;>(try simp only[DZ]at h))|(with_reducible refine AI (by omega) ?_)|simp only[EVz,seval,↓reduceIte,EV6,EV7,hx.yes,hx.le0,hx.lt',hx.get,hx.row,hw,Gz.cs,F]|simp only[EVz,seval,↓reduceIte,EV6,EV7,hx.yes,hx.le0,hx.lt',hx.get,hx.row,hw,Gz.cs]|(with_reducible intro J I;(try(have E:=I;simp only[EVK]at E;first|(have F:=AI E F)|(have F:=E))))|(with_reducible first|refine ae ?_ ?_|refine af ?_)|(exfalso;omega)))
  refine ax (ι:=List Ac×AV×Store×List (Int×AV)) x.acts (λk r c=>(∀a∈c.1,∃g∈gs,a∈g.acts)/\c.1.length<=8*i+k/\WA c.1 c.2.1 c.2.2.1/\MB c.2.2.2) (λk c=>[(1,.sc (tellF bo)),(4,.sc (.map (some bm))),(10,.lst 4 (gs.map Gz.cs)),(11,.int .i64 gs.length),(12,.int .i64 i),(17,.lst 7 (x.acts.map Ac.cs)),(18,.int .i64 x.acts.length),(19,.int .i64 k)]) (λk c=>(bm,.map (bB keyI c.2.2.2))::(bo,.cells 96 [c.2.1])::c.2.2.1) (zs,xv,κ,l) ⟨M,T,N,O⟩ (Weak.sub (SubN.tail (SubN.refl _) _)) (by omega) (λk y r2 c V hy al=>?_) (λc V hn=>?_)
  ·clear M T N O E I F
   clear zs xv κ l
   obtain⟨zs,xv,κ,l⟩:=c
   obtain⟨M,T,N,O⟩:=V
   simp only at M T N O ⊢
   have F:=True.intro
   have bx:=hy.lt
   obtain⟨ag,an⟩:=O.get y.number
   have hT:=tellV G bo y ag zs xv κ N (by omega)
   simp only[Ac.cs]at hT
   (repeat' (first|(with_reducible (first|refine ab (λh=>?_) (λh=>?_)|refine ai (λh=>?_) (λh=>?_)|refine ak (λh=>?_) (λh=>?_))<;>(try simp only[DZ]at h))|(with_reducible refine AI (by omega) ?_)|simp only[EVz,seval,↓reduceIte,EV6,EV7,hy.yes,hy.le0,hy.lt',hy.get,hy.row,al,Ac.cs,an,F]|simp only[EVz,seval,↓reduceIte,EV6,EV7,hy.yes,hy.le0,hy.lt',hy.get,hy.row,al,Ac.cs,an]|(with_reducible intro J I;(try(have E:=I;simp only[EVK]at E;first|(have F:=AI E F)|(have F:=E))))|(with_reducible first|refine ae ?_ ?_|refine af ?_)|(refine aC eJ (l:=l) (k:=y.number) (z:=.bool false) (zv:=.bool false) rfl (λ_ _ _ h=>jj h) (eT:=4) (by kernel_rfl) (by first|exact aH|(simp[Store.get, *];done)) (by kernel_rfl) (λ_ _=>by simp only[Rep]) ?_)|(exfalso;omega)))
   refine ay ((bo,.cells 96 [xv])::κ) [(J,_),(bm,_)] hT (aA.rfl' _) (SubN.perm perm_append_comm) (λr σ' hr ad=>?_)
   obtain⟨rfl,be,bd,ac,hz,aw,rfl⟩:=hr
   have ah:J≠bm:=E.1
   rw[aB,nodup_append]at ad
   obtain⟨n1,n2,n3⟩:=ad
   have m1:J∉Store.keys ac:=λh=>n3 _ (mem_cons_of_mem _ h) _ (by simp[Store.keys]) rfl
   have m2:bm∉Store.keys ac:=λh=>n3 _ (mem_cons_of_mem _ h) _ (by simp[Store.keys]) rfl
   have m3:¬bo=J:=λh=>n3 bo (by simp[Store.keys]) _ (by simp[Store.keys,h]) rfl
   have m4:¬bo=bm:=λh=>n3 bo (by simp[Store.keys]) _ (by simp[Store.keys,h]) rfl
   have s1:∀X Y,Store.get (ac++[(J,X),(bm,Y)]) J=some X:=λX Y=>by rw[ao m1,aH]
   have s2:∀X Y Z,Store.get ((bo,Z)::ac++[(J,X),(bm,Y)]) bm=some Y:=λX Y Z=>by rw[cons_append,lE,if_neg m4,ao m2];simp[Store.get,ah]
   have s3:∀X Y Z,Store.set (ac++[(J,X),(bm,Y)]) bm Z=ac++[(J,X),(bm,Z)]:=λX Y Z=>by rw[au m2];simp[Store.set,ah]
   clear n1 n2 n3 hT
   (repeat' (first|(with_reducible (first|refine ab (λh=>?_) (λh=>?_)|refine ai (λh=>?_) (λh=>?_)|refine ak (λh=>?_) (λh=>?_))<;>(try simp only[DZ]at h))|(with_reducible refine AI (by omega) ?_)|simp only[EVz,seval,↓reduceIte,EV6,EV7,s1,s3,al,m3,m4]|(with_reducible intro J I;(try(have E:=I;simp only[EVK]at E;first|(have F:=AI E F)|(have F:=E))))|(with_reducible first|refine ae ?_ ?_|refine af ?_)|(refine cr eJ (l:=l) (k:=y.number) (yv:=.bool true) rfl (λ_ _ _ h=>jj h) rfl (eT:=4) (by kernel_rfl) (s2 _ _ _) ?_)|(exfalso;omega)))
   refine am hy (be,bd,ac,bu y.number (.bool true) l) ⟨?_,?_,aw,O.put _ _⟩ (Weak.sub subBack)
   ·rcases hz with rfl|rfl
    ·exact M
    ·intro a ha
     rcases mem_append.1 ha with ha|ha
     ·exact M a ha
     ·simp only[mem_singleton]at ha
      subst ha
      exact⟨x,hx.mem,hy.mem⟩
   ·simp only
    rcases hz with rfl|rfl
    ·omega
    ·rw[length_append];simp only[length_cons,length_nil];omega
  ·clear M T N O E I F
   clear zs xv κ l
   obtain⟨zs,xv,κ,l⟩:=c
   obtain⟨M,T,N,O⟩:=V
   simp only at M T N O ⊢
   (repeat' (first|(with_reducible (first|refine ab (λh=>?_) (λh=>?_)|refine ai (λh=>?_) (λh=>?_)|refine ak (λh=>?_) (λh=>?_))<;>(try simp only[DZ]at h))|(with_reducible refine AI (by omega) ?_)|simp only[EVz,seval,↓reduceIte,EV6,EV7,hn,hw]|(with_reducible intro J I;(try(have E:=I;simp only[EVK]at E;first|(have F:=AI E F)|(have F:=E))))|(with_reducible first|refine ae ?_ ?_|refine af ?_)|(exfalso;omega)))
   exact am hx (zs,xv,κ,l) ⟨M,by simp only;omega,N,O⟩ (Weak.rfl' _ _)
 ·obtain⟨zs,xv,κ,l⟩:=c
  obtain⟨M,T,N,O⟩:=V
  simp only at M T N O ⊢
  (repeat' (first|(with_reducible (first|refine ab (λh=>?_) (λh=>?_)|refine ai (λh=>?_) (λh=>?_)|refine ak (λh=>?_) (λh=>?_))<;>(try simp only[DZ]at h))|(with_reducible refine AI (by omega) ?_)|simp only[EVz,seval,↓reduceIte,EV6,EV7,hn]|(with_reducible intro J I;(try(have E:=I;simp only[EVK]at E;first|(have F:=AI E F)|(have F:=E))))|(with_reducible first|refine ae ?_ ?_|refine af ?_)|(exfalso;omega)))
  exact⟨.tup [],_,AVle.rfl' _,SubN.tail (SubN.refl _) _,rfl,zs,xv,κ,M,by omega,N,rfl⟩
theorem f3070 (f:Value):aj G Tryz.prog 307 [.nil,.int .i64 0,.int .i64 0,.sc f] [] (λr σ'=>r= .tup []/\σ'=[]):=by
 refine aj.w c307 ?_
 unfold s307 r307
 (repeat' (first|(with_reducible (first|refine ab (λh=>?_) (λh=>?_)|refine ai (λh=>?_) (λh=>?_)|refine ak (λh=>?_) (λh=>?_))<;>(try simp only[DZ]at h))|(with_reducible refine AI (by omega) ?_)|simp only[EVz,seval,↓reduceIte,EV6,EV7]|(with_reducible intro J F;(try(have E:=F;simp only[EVK]at E;first|(have I:=AI E I)|(have I:=E))))|(with_reducible first|refine ae ?_ ?_|refine af ?_)|(exfalso;omega)))
 refine bv (ι:=Unit) (λ_=>True) (λ_=>0) (λ_=>[(0,.nil),(1,.int .i64 0),(2,.int .i64 0),(3,.sc f),(8,.int .i64 1)]) (λ_=>[]) () trivial (Weak.rfl' _ _) ?_
 intro _ _
 (repeat' (first|(with_reducible (first|refine ab (λh=>?_) (λh=>?_)|refine ai (λh=>?_) (λh=>?_)|refine ak (λh=>?_) (λh=>?_))<;>(try simp only[DZ]at h))|(with_reducible refine AI (by omega) ?_)|simp only[EVz,seval,↓reduceIte,EV6,EV7]|(with_reducible intro J F;(try(have E:=F;simp only[EVK]at E;first|(have I:=AI E I)|(have I:=E))))|(with_reducible first|refine ae ?_ ?_|refine af ?_)|(exfalso;omega)))
 all_goals exact retI ⟨rfl,rfl⟩
theorem f2630 (f:Value):aj G Tryz.prog 263 [.nil,.int .i64 0,.sc f] [] (λr σ'=>r= .tup []/\σ'=[]):=by
 have M:=f3070 G f
 refine aj.w c263 ?_
 unfold s263 r263
 (repeat' (first|(with_reducible (first|refine ab (λh=>?_) (λh=>?_)|refine ai (λh=>?_) (λh=>?_)|refine ak (λh=>?_) (λh=>?_))<;>(try simp only[DZ]at h))|(with_reducible refine AI (by omega) ?_)|simp only[EVz,seval,↓reduceIte,EV6,EV7]|(with_reducible intro J F;(try(have E:=F;simp only[EVK]at E;first|(have I:=AI E I)|(have I:=E))))|(with_reducible first|refine ae ?_ ?_|refine af ?_)|(exfalso;omega)))
 refine bv (ι:=Unit) (λ_=>True) (λ_=>0) (λ_=>[(0,.nil),(1,.int .i64 0),(2,.sc f),(6,.int .i64 20),(7,.int .i64 0),(8,.int .i64 20)]) (λ_=>[]) () trivial (Weak.rfl' _ _) ?_
 intro _ _
 (repeat' (first|(with_reducible (first|refine ab (λh=>?_) (λh=>?_)|refine ai (λh=>?_) (λh=>?_)|refine ak (λh=>?_) (λh=>?_))<;>(try simp only[DZ]at h))|(with_reducible refine AI (by omega) ?_)|simp only[EVz,seval,↓reduceIte,EV6,EV7]|(with_reducible intro J F;(try(have E:=F;simp only[EVK]at E;first|(have I:=AI E I)|(have I:=E))))|(with_reducible first|refine ae ?_ ?_|refine af ?_)|(exfalso;omega)))
 refine dE M ?_
 rintro _ _ ⟨rfl,rfl⟩
 (repeat' (first|(with_reducible (first|refine ab (λh=>?_) (λh=>?_)|refine ai (λh=>?_) (λh=>?_)|refine ak (λh=>?_) (λh=>?_))<;>(try simp only[DZ]at h))|(with_reducible refine AI (by omega) ?_)|simp only[EVz,seval,↓reduceIte,EV6,EV7]|(with_reducible intro J F;(try(have E:=F;simp only[EVK]at E;first|(have I:=AI E I)|(have I:=E))))|(with_reducible first|refine ae ?_ ?_|refine af ?_)|(exfalso;omega)))
 refine bv (ι:=Unit) (λ_=>True) (λ_=>0) (λ_=>[(0,.nil),(1,.int .i64 0),(2,.sc f),(6,.int .i64 20)]) (λ_=>[]) () trivial (Weak.rfl' _ _) ?_
 intro _ _
 (repeat' (first|(with_reducible (first|refine ab (λh=>?_) (λh=>?_)|refine ai (λh=>?_) (λh=>?_)|refine ak (λh=>?_) (λh=>?_))<;>(try simp only[DZ]at h))|(with_reducible refine AI (by omega) ?_)|simp only[EVz,seval,↓reduceIte,EV6,EV7]|(with_reducible intro J F;(try(have E:=F;simp only[EVK]at E;first|(have I:=AI E I)|(have I:=E))))|(with_reducible first|refine ae ?_ ?_|refine af ?_)|(exfalso;omega)))
 all_goals exact retI ⟨rfl,rfl⟩
theorem f2160 (f:Value):aj G Tryz.prog 216 [.nil,.sc f] [] (λr σ'=>r= .tup []/\σ'=[]):=by
 have M:=f2630 G f
 refine aj.w c216 ?_
 unfold s216 r216
 (repeat' (first|(with_reducible (first|refine ab (λh=>?_) (λh=>?_)|refine ai (λh=>?_) (λh=>?_)|refine ak (λh=>?_) (λh=>?_))<;>(try simp only[DZ]at h))|(with_reducible refine AI (by omega) ?_)|simp only[EVz,seval,↓reduceIte,EV6,EV7]|(with_reducible intro J F;(try(have E:=F;simp only[EVK]at E;first|(have I:=AI E I)|(have I:=E))))|(with_reducible first|refine ae ?_ ?_|refine af ?_)|(exfalso;omega)))
 refine dE M ?_
 rintro _ _ ⟨rfl,rfl⟩
 (repeat' (first|(with_reducible (first|refine ab (λh=>?_) (λh=>?_)|refine ai (λh=>?_) (λh=>?_)|refine ak (λh=>?_) (λh=>?_))<;>(try simp only[DZ]at h))|(with_reducible refine AI (by omega) ?_)|simp only[EVz,seval,↓reduceIte,EV6,EV7]|(with_reducible intro J F;(try(have E:=F;simp only[EVK]at E;first|(have I:=AI E I)|(have I:=E))))|(with_reducible first|refine ae ?_ ?_|refine af ?_)|(exfalso;omega)))
 all_goals exact retI ⟨rfl,rfl⟩
theorem mX {α:Type} {row:α->List AV} {ps:List α}:∀{L:List (List AV)},(∀r∈L,r∈ps.map row)->∃qs:List α,L=qs.map row/\∀q∈qs,q∈ps
 |[],_=>⟨[],rfl,λq E=>by cases E⟩
 |r::L,h=>by
  obtain⟨p,I,rfl⟩:=mem_map.1 (h r (by simp))
  obtain⟨qs,rfl,F⟩:=mX (ps:=ps) (L:=L) (λr J=>h r (mem_cons_of_mem _ J))
  exact⟨p::qs,rfl,λq E=>by rcases mem_cons.1 E with rfl|E;exact I;exact F q E⟩
theorem cmpActs (zs:List Ac):CmpF G (zs.map Ac.cs) (.func (.func 217) #[] #[]):=by
 intro r F s I
 obtain⟨a,_,rfl⟩:=mem_map.1 F
 obtain⟨b,_,rfl⟩:=mem_map.1 I
 obtain⟨k,E⟩:=f217 G a b
 exact⟨k,E.v⟩
theorem f179 (O:List Gz) (ad:O.length<=8) (Z:∀g∈O,g.acts.length<=8):
  aj G Tryz.prog 179 [.lst 4 (O.map Gz.cs)] [] (λr σ'=>σ'=[]/\∃zs:List Ac,(zs.length<=64/\∀a∈zs,∃g∈O,a∈g.acts)/\r= .lst 7 (zs.map Ac.cs)):=by
 refine aj.freezeQs (row:=λl:List Ac=>l.map Ac.cs) (e:=100) ?_
 refine aj.w c179 ?_
 unfold s179 r179
 (repeat' (first|(with_reducible (first|refine ab (λh=>?_) (λh=>?_)|refine ai (λh=>?_) (λh=>?_)|refine ak (λh=>?_) (λh=>?_))<;>(try simp only[DZ]at h))|(with_reducible refine AI (by omega) ?_)|simp only[EVz,seval,↓reduceIte,EV6,EV7]|(with_reducible intro J F;(try(have E:=F;simp only[EVK]at E;first|(have I:=AI E I)|(have I:=E))))|(with_reducible first|refine ae ?_ ?_|refine af ?_)|(exfalso;omega)))
 refine ay [(J,_)] [] (f214 G _ O ad Z).v (aA.rfl' _) (SubN.refl _) (λr σ' X V=>?_)
 obtain⟨rfl,zs,xv,κ,h1,h2,hW,rfl⟩:=X
 rcases hW with⟨rfl,rfl,rfl⟩|⟨b,cap,pad,rfl,rfl,w1,w2,w3,w4⟩
 ·(repeat' (first|(with_reducible (first|refine ab (λh=>?_) (λh=>?_)|refine ai (λh=>?_) (λh=>?_)|refine ak (λh=>?_) (λh=>?_))<;>(try simp only[DZ]at h))|(with_reducible refine AI (by omega) ?_)|simp only[EVz,seval,↓reduceIte,EV6,EV7]|(with_reducible intro J F;(try(have E:=F;simp only[EVK]at E;first|(have I:=AI E I)|(have I:=E))))|(with_reducible first|refine ae ?_ ?_|refine af ?_)|(exfalso;omega)))
  refine aP [] _ (f2160 G _).v (aA.rfl' _) (SubN.refl _) ?_
  rintro _ _ ⟨rfl,rfl⟩
  (repeat' (first|(with_reducible (first|refine ab (λh=>?_) (λh=>?_)|refine ai (λh=>?_) (λh=>?_)|refine ak (λh=>?_) (λh=>?_))<;>(try simp only[DZ]at h))|(with_reducible refine AI (by omega) ?_)|simp only[EVz,seval,↓reduceIte,EV6,EV7]|(with_reducible intro J F;(try(have E:=F;simp only[EVK]at E;first|(have I:=AI E I)|(have I:=E))))|(with_reducible first|refine ae ?_ ?_|refine af ?_)|(exfalso;omega)))
  all_goals exact⟨.sc (.slice none 0 0),[],Or.inl (Or.inr rfl),SubN.nil _,[],⟨by simp,λa Y=>by cases Y⟩,aO.nil⟩
 ·have ac:¬b=J:=λe=>by simp[Store.keys]at V;exact V e.symm
  have h7:∀r∈zs.map Ac.cs,r.length=7:=λr X=>by obtain⟨a,_,rfl⟩:=mem_map.1 X;rfl
  have hS:=f216 G b cap (zs.map Ac.cs) pad h7 (by rw[length_map];omega) _ (cmpActs G zs)
  rw[length_map]at hS
  (repeat' (first|(with_reducible (first|refine ab (λh=>?_) (λh=>?_)|refine ai (λh=>?_) (λh=>?_)|refine ak (λh=>?_) (λh=>?_))<;>(try simp only[DZ]at h))|(with_reducible refine AI (by omega) ?_)|simp only[EVz,seval,↓reduceIte,EV6,EV7]|(with_reducible intro J F;(try(have E:=F;simp only[EVK]at E;first|(have I:=AI E I)|(have I:=E))))|(with_reducible first|refine ae ?_ ?_|refine af ?_)|(exfalso;omega)))
  refine aP [(b,_)] [(J,_)] hS.v (aA.rfl' _) (SubN.perm (List.Perm.swap _ _ _)) ?_
  rintro _ _ ⟨rfl,L',T,rfl⟩
  obtain⟨qs,rfl,hq⟩:=mX T.2
  have N:qs.length=zs.length:=by have:=T.1;simpa using this
  (repeat' (first|(with_reducible (first|refine ab (λh=>?_) (λh=>?_)|refine ai (λh=>?_) (λh=>?_)|refine ak (λh=>?_) (λh=>?_))<;>(try simp only[DZ]at h))|(with_reducible refine AI (by omega) ?_)|simp only[EVz,seval,↓reduceIte,EV6,EV7,ac]|(with_reducible intro J F;(try(have E:=F;simp only[EVK]at E;first|(have I:=AI E I)|(have I:=E))))|(with_reducible first|refine ae ?_ ?_|refine af ?_)|(exfalso;omega)))
  have M:∀r∈qs.map Ac.cs,r.length=7:=λr X=>by obtain⟨a,_,rfl⟩:=mem_map.1 X;rfl
  exact⟨_,[(b,_)],AVle.rfl' _,SubN.cons (SubN.nil _) _,qs,⟨by omega,λa Y=>h1 a (hq a Y)⟩,aO.mk (by rw[length_map,N]) (by rw[length_map,N];exact w1) w2 M (by
   have e1:=ap _ h7
   have e2:=ap _ M
   rw[←w3,length_append,length_append,e1,e2,length_map,length_map,N])⟩
end
theorem ll {l:List Wd} (h:eG l=true):l.length<1000000/\∀w∈l,w.text.length<1000000:=by
 unfold eG at h
 simp only[Bool.and_eq_true,all_eq_true,decide_eq_true_eq]at h
 exact⟨by omega,λw E=>by have:=h.1 w E;omega⟩
theorem jg:∀{us:List U},U.shortss us=true->∀k∈us,k.shorts=true
 |[],_,k,hk=>by cases hk
 |u::us,h,k,hk=>by
  rw[U.shortss,Bool.and_eq_true]at h
  rcases mem_cons.1 hk with rfl|hk
  ·exact h.1
  ·exact jg h.2 k hk
theorem nL:∀u:U,u.shorts=true->∀x∈u.flat,x.label.length<1000000/\x.head.length<1000000/\x.words.length<1000000/\(∀w∈x.head,w.text.length<1000000)/\(∀w∈x.words,w.text.length<1000000):=by
 refine U.ind λu ih h x E=>?_
 rw[U.shorts_eq]at h
 simp only[Bool.and_eq_true,decide_eq_true_eq]at h
 obtain⟨N,I,J,M⟩:=h
 rw[U.flat_eq]at E
 rcases mem_cons.1 E with rfl|E
 ·have a:=ll I
  have b:=ll J
  exact⟨by omega,a.1,b.1,a.2,b.2⟩
 ·obtain⟨k,F,E⟩:=ig E
  exact ih k F (jg M k F) x E
theorem oC {u:U} (T:u.fit) {m:Int} (V:0<=m) (X:m<=100000) (h:u.few m=true):u.Short:=by
 unfold U.few at h
 simp only[Bool.and_eq_true,decide_eq_true_eq]at h
 obtain⟨N,O⟩:=h
 have h3:=(U.size_ok u 0 m V).2.2 N
 exact⟨⟨T,by omega⟩,λx Y=>by
  obtain⟨Z,F,I,J,M⟩:=nL u O x Y
  exact⟨by omega,F,I,λw E=>by have:=J w E;omega,λw E=>by have:=M w E;omega⟩⟩
theorem n9 {l:List Stp} (h:bU l=true):∀s∈l,s.label.length<=100:=by
 unfold bU at h
 simp only[all_eq_true,decide_eq_true_eq]at h
 intro s E
 have:=h s E
 omega
theorem ny:∀{l:List Itm},Itm.fews l=true->∀y∈l,y.few=true
 |[],_,y,hy=>by cases hy
 |x::l,h,y,hy=>by
  rw[Itm.fews_cons,Bool.and_eq_true,Bool.and_eq_true]at h
  rcases mem_cons.1 hy with rfl|hy
  ·exact h.1.2
  ·exact ny h.2 y hy
theorem kO:∀x:Itm,x.fit->x.few=true->x.Shorts:=by
 refine Itm.ind λx ih J h=>?_
 rw[Itm.few_eq]at h
 unfold Itm.few0 at h
 simp only[Bool.and_eq_true,decide_eq_true_eq]at h
 obtain⟨⟨X,Y,Z,a4,a5,a6,a7,a8,a9,E⟩,b1,b2,M,N,O⟩:=h
 obtain⟨h1,h2,T,h4,h5,h6,V⟩:=(Itm.fit_eq x).1 J
 refine(Itm.Shorts_eq x).2 ⟨⟨J,oC T (by omega) (by omega) E,by omega,by omega,λs F=>by have:=n9 M s F;omega,λs F=>by have:=n9 N s F;omega,by omega,by omega,by omega,by omega,by omega,by omega⟩,λy I=>ih y I (V y I) (ny O y I)⟩
def Ac.tiny (a:Ac):Prop:=a.items.length<=24/\∀x∈a.items,x.few=true
def Gz.tiny (g:Gz):Prop:=g.acts.length<=8/\∀a∈g.acts,a.tiny
def Ac.fit (a:Ac):Prop:=a.items.length<1000000000000000000/\∀x∈a.items,x.fit
def Gz.fit (g:Gz):Prop:=g.acts.length<1000000000000000000/\∀a∈g.acts,a.fit
theorem iM {α:Type} {p:α->Prop} {l r:List α} {x:α} (h:∀g∈l,g∈x::r\/p g) (F:p x):∀g∈l,g∈r\/p g:=λg E=>by
 rcases h g E with h|h
 ·rcases mem_cons.1 h with rfl|h
  ·exact .inr F
  ·exact .inl h
 ·exact .inr h
theorem jR {α:Type} {p:α->Prop} {l:List α} (h:∀g∈l,g∈([]:List α)\/p g):∀g∈l,p g:=λg E=>by
 rcases h g E with h|h
 ·cases h
 ·exact h
section
variable (G:Glob)
set_option maxRecDepth 8000 in
set_option maxHeartbeats 16000000 in
theorem f29 (gs:List Gz) (hgl:gs.length<1000000000000000000) (hf:∀g∈gs,g.fit):
  aj G Tryz.prog 29 [.lst 4 (gs.map Gz.cs),.int .i64 24] [] (λr σ'=>σ'=[]/\∃b,r= .bool b/\(b=true->gs.length<=8/\∀g∈gs,g.tiny)):=by
 have no:∀σ,RET (.bool false) σ (λr σ'=>σ'=[]/\∃b,r= .bool b/\(b=true->gs.length<=8/\∀g∈gs,g.tiny)):=λσ=>⟨_,[],AVle.rfl' _,SubN.nil _,rfl,false,rfl,λh=>by cases h⟩
 refine aj.w c29 ?_
 unfold s29 r29
 by_cases h8:8<gs.length
 ·have e0:decide ((8:Int)<(gs.length:Int))=true:=decide_eq_true (by omega)
  (repeat' (simp only[EVz,seval,↓reduceIte,EV6,EV7,e0]))
  all_goals exact no _
 have e0:decide ((8:Int)<(gs.length:Int))=false:=decide_eq_false (by omega)
 (repeat' (simp only[EVz,seval,↓reduceIte,EV6,EV7,e0]))
 refine ax (ι:=Nat) gs (λi r n=>n<=24/\∀g∈gs,g∈r\/g.tiny) (λi n=>[(0,.lst 4 (gs.map Gz.cs)),(1,.int .i64 24),(5,.int .i64 n),(6,.int .i64 i)]) (λ_ _=>[]) 0 ⟨by omega,λg hg=>.inl hg⟩ (Weak.rfl' _ _) (by omega) (λi x r n hok hx hw=>?_) (λn hok hn=>?_)
 ·obtain⟨hn24,hok⟩:=hok
  obtain⟨hxf1,hxf2⟩:=hf x hx.mem
  have hxl:=hx.lt
  (repeat' (first|(with_reducible (first|refine ab (λh=>?_) (λh=>?_)|refine ai (λh=>?_) (λh=>?_))<;>(try simp only[DZ]at h))|simp only[EVz,seval,↓reduceIte,EV6,EV7,hx.yes,hx.le0,hx.lt',hx.get,hx.row,hw,Gz.cs]))
  all_goals first|exact no _|skip
  refine ax (ι:=Nat) x.acts (λk r n=>n<=24/\∀a∈x.acts,a∈r\/a.tiny) (λk n=>[(0,.lst 4 (gs.map Gz.cs)),(1,.int .i64 24),(5,.int .i64 n),(6,.int .i64 i),(7,.int .i64 k)]) (λ_ _=>[]) n ⟨hn24,λg hg=>.inl hg⟩ (Weak.rfl' _ _) (by omega) (λk a r2 n hok2 hy hw2=>?_) (λn hok2 hn=>?_)
  ·obtain⟨hn24,hok2⟩:=hok2
   obtain⟨haf1,haf2⟩:=hxf2 a hy.mem
   have hyl:=hy.lt
   have hw3:IntKind.i64.wrap ((n:Int)+(a.items.length:Int))=((n+a.items.length:Nat):Int):=by rw[av (by omega) (by omega)];omega
   have hne:=True.intro
   (repeat' (first|(with_reducible (first|refine ab (λh=>?_) (λh=>?_)|refine ai (λh=>?_) (λh=>?_))<;>(try simp only[DZ]at h))|simp only[EVz,seval,↓reduceIte,EV6,EV7,hx.yes,hx.le0,hx.lt',hx.get,hx.row,hw,Gz.cs,hy.yes,hy.le0,hy.lt',hy.get,hy.row,hw2,hw3,Ac.cs,hne]|(with_reducible intro blk hblk;(try(have hnx:=hblk;simp only[EVK]at hnx;(have hne:=AI hnx hne))))))
   all_goals first|exact no _|skip
   refine ax (ι:=Unit) a.items (λj r (c:Unit)=>∀y∈a.items,y∈r\/y.few=true) (λj c=>[(0,.lst 4 (gs.map Gz.cs)),(1,.int .i64 24),(5,.int .i64 ((n+a.items.length:Nat):Int)),(6,.int .i64 i),(7,.int .i64 k),(8,.sc (.pointer (some ⟨blk,0,none⟩))),(9,.int .i64 j)]) (λ_ _=>[(blk,.cells 100 [.int .i64 a.number,.str a.title,.int .i64 a.day,.int .i64 a.start.kind,.int .i64 a.start.day,.str a.start.event,.lst 25 (a.items.map Itm.cs)])]) () (λg hg=>.inl hg) (Weak.rfl' _ _) (by omega) (λj y r3 c hok3 hz hw4=>?_) (λc hok3 hn=>?_)
   ·have hF:=f68 G y (haf2 y hz.mem)
    rw[Itm.cs_eq]at hF
    (try simp only[EVz,seval,↓reduceIte,EV6,EV7,hz.yes,hz.le0,hz.lt',hz.get,hz.row,hw4,Itm.cs_eq])
    refine aa hF ?_
    (repeat' (first|(with_reducible (refine ab (λh=>?_) (λh=>?_))<;>(try simp only[DZ]at h))|simp only[EVz,seval,↓reduceIte,EV6,EV7,hw4]))
    ·exact no _
    ·exact am hz () (iM hok3 h) (Weak.rfl' _ _)
   ·have hat:a.tiny:=⟨by omega,jR hok3⟩
    (repeat' (simp only[EVz,seval,↓reduceIte,EV6,EV7,hn,hw2]))
    all_goals exact am hy (n+a.items.length) ⟨by omega,iM hok2 hat⟩ (Weak.sub (SubN.nil _))
  ·obtain⟨hn24,hok2⟩:=hok2
   have hxt:x.tiny:=⟨by omega,jR hok2⟩
   (repeat' (simp only[EVz,seval,↓reduceIte,EV6,EV7,hx.yes,hx.le0,hx.lt',hx.get,hx.row,hw,Gz.cs,hn]))
   all_goals exact am hx n ⟨hn24,iM hok hxt⟩ (Weak.rfl' _ _)
 ·obtain⟨hn24,hok⟩:=hok
  (repeat' (simp only[EVz,seval,↓reduceIte,EV6,EV7,hn]))
  all_goals exact retI ⟨rfl,true,rfl,λ_=>⟨by omega,jR hok⟩⟩
theorem f6 (E:List Gz) (F:E.length<1000000000000000000) (J:∀g∈E,g.fit) (p:List UInt8):
  aj G Tryz.prog 6 [.lst 4 (E.map Gz.cs),.str p] [] (λr σ'=>σ'=[]/\∃b,r= .bool b/\(b=true->E.length<=8/\∀g∈E,g.tiny)):=by
 have h:=f29 G E F J
 refine aj.w c6 ?_
 unfold s6 r6
 (repeat' (simp only[EVz,seval,↓reduceIte,EV6,EV7]))
 refine bf h ?_
 rintro _ ⟨b,rfl,I⟩
 cases b with
 |false=>
  (repeat' (simp only[EVz,seval,↓reduceIte,EV6,EV7]))
  all_goals exact retI ⟨rfl,_,rfl,λh=>by simp at h⟩
 |true=>
  (repeat' (simp only[EVz,seval,↓reduceIte,EV6,EV7]))
  all_goals exact retI ⟨rfl,_,rfl,λ_=>I rfl⟩
end
end Go.Av

/-
  THE TRANSLATED CODE. Printed by mkcode2.py.
-/
import Derived.Test.YtjdccoplpljmlaaGreatDoorVXDattoXC1
import Derived.Test.YtjdccoplpljmlaaGreatDoorVXAv26toXGlob
import Derived.Test.YtjdccoplpljmlaaGreatDoorProg
import Derived.Test.YtjdccoplpljmlaaGreatDoorVXY3toXY5
import Derived.Test.YtjdccoplpljmlaaGreatDoorVXCY2toXAv27
import Derived.Test.YtjdccoplpljmlaaGreatDoorVXAv29toXAv33
import Derived.Lib.MinMax
import Derived.Test.YtjdccoplpljmlaaGreatDoorVXAv21toXAv25
import Derived.Sort.Grow
import Derived.Sort.Row
namespace Go.Av
open Go List
set_option linter.unusedSimpArgs false
set_option linter.unusedVariables false
abbrev Zg2:SCode:=.region [qa 2 (.mov (.c .nil))] [0]
abbrev Zg1:List AV:=[.int .i64 0,.int .i64 0]
abbrev Zg0:DT:=.step (qa 65 (.raw (.call (.mk (.builtin .max) #[.tmp 62,.tmp 64] #[3,3])))) (.step (qa 66 (.indexA 2 (.t 54) (.t 56))) (.step (qa 67 (.fieldA 1 (.t 66))) (.step ⟨none,none,.store 1 (.t 67) (.t 65)⟩ .done)))
def r183w:List (Nat×Option (Bool×Nat)):=[(2,none)]
def s183w:SCode:=qs Zg2 (qs (.region [qa 3 (.mov (.c .nil))] [0,3]) (qs (qs (.region [qa 9 (.mov (.t 0)),qa 10 (.len (.t 9)),qa 11 (.mov (qi 0))] [3,9,10,11]) (qs (.block 0 (.loop (qs (.region [qa 12 (.bin .lss (.t 11) (.t 10))] [3,9,10,11,12]) (qs (.cond (.t 12) .skip (.exit 0)) (qs (qs (.block 1 (qs (.region [qa 13 (.indexA 2 (.t 9) (.t 11)),qa 14 (.load true 2 (.t 13)),qa 5 (.alloc 255 Zg1),⟨none,none,.store 2 (.t 5) (.t 14)⟩] [3,5,9,10,11]) (qs (.region [qa 15 (.fieldA 0 (.t 5)),qa 16 (ql (.t 15)),qa 17 (.raw (.call (.mk (.builtin .max) #[.tmp 16,.const (.int .i64 0)] #[3,3]))),qa 18 (.fieldA 1 (.t 5)),qa 19 (ql (.t 18)),qa 20 (.raw (.call (.mk (.builtin .min) #[.tmp 19,.const (.int .i64 1048577)] #[3,3]))),qa 21 (.fieldA 0 (.t 5)),⟨none,none,.store 1 (.t 21) (.t 17)⟩,qa 22 (.fieldA 1 (.t 5)),⟨none,none,.store 1 (.t 22) (.t 20)⟩] [3,5,9,10,11]) (qs (.region [qa 23 (.fieldA 0 (.t 5)),qa 24 (ql (.t 23)),qa 25 (.fieldA 1 (.t 5)),qa 26 (ql (.t 25)),qa 27 (.bin .lss (.t 24) (.t 26))] [3,5,9,10,11,27]) (.cond (.t 27) (.region [qa 28 (.mov (.t 3)),qa 29 (.load true 2 (.t 5)),qa 30 (.buildS 255 2 1 Zg1 [(0,.t 29)]),qa 31 (.raw (.call (.mk (.builtin .append) #[.tmp 28,.tmp 30] #[160,160]))),qa 3 (.mov (.t 31))] [3,9,10,11]) .skip))))) (.region [] [3,9,10,11])) (.region [qa 32 (.bin .add (.t 11) (qi 1)),qa 11 (.mov (.t 32))] [3,9,10,11])))))) (.region [] [3]))) (qs (.region [qa 33 (.mov (.t 3)),qa 34 (.call (.f 228) [.t 33,.f 229])] [3]) (qs (.region [qa 6 (.mov (qi 0))] [3,6]) (qs (qs (.region [qa 35 (.mov (.t 3)),qa 36 (.len (.t 35)),qa 37 (.mov (qi 0))] [3,6,35,36,37]) (qs (.block 2 (.loop (qs (.region [qa 38 (.bin .lss (.t 37) (.t 36))] [3,6,35,36,37,38]) (qs (.cond (.t 38) .skip (.exit 2)) (qs (qs (.block 3 (qs (.region [qa 39 (.indexA 2 (.t 35) (.t 37)),qa 40 (.load true 2 (.t 39)),qa 8 (.alloc 255 Zg1),⟨none,none,.store 2 (.t 8) (.t 40)⟩] [3,6,8,35,36,37]) (qs (qs (.draw [qa 41 (.mov (.t 6)),qa 42 (.bin .gtr (.t 41) (qi 0)),qa 43 (.mov (.t 42)),qb 44 43 (.fieldA 0 (.t 8)),qb 45 43 (ql (.t 44)),qb 46 43 (.mov (.t 3)),qb 47 43 (.mov (.t 6)),qb 48 43 (.bin .sub (.t 47) (qi 1)),qb 49 43 (.indexA 2 (.t 46) (.t 48)),qb 50 43 (.fieldA 1 (.t 49)),qb 51 43 (ql (.t 50)),qb 52 43 (.bin .leq (.t 45) (.t 51)),qa 53 (.pick (.t 43) (.t 52) qf)] [3,6,8,35,36,37,53]) (.cond (.t 53) (qs (.drawT (.step (qa 54 (.mov (.t 3))) (.step (qa 55 (.mov (.t 6))) (.step (qa 56 (.bin .sub (.t 55) (qi 1))) (.step (qa 57 (.mov (.t 3))) (.step (qa 58 (.mov (.t 6))) (.step (qa 59 (.bin .sub (.t 58) (qi 1))) (.step (qa 60 (.indexA 2 (.t 57) (.t 59))) (.step (qa 61 (.fieldA 1 (.t 60))) (.step (qa 63 (.fieldA 1 (.t 8))) (.both (.step (qa 62 (ql (.t 61))) (.step (qa 64 (ql (.t 63))) Zg0)) (.step (qa 64 (ql (.t 63))) (.step (qa 62 (ql (.t 61))) Zg0)))))))))))) [3,6,35,36,37]) (.exit 3)) .skip)) (qs (.region [qa 68 (.mov (.t 3)),qa 69 (.mov (.t 6)),qa 70 (.load true 2 (.t 8)),qa 71 (.indexA 2 (.t 68) (.t 69)),⟨none,none,.store 2 (.t 71) (.t 70)⟩] [3,6,35,36,37]) (.region [qa 72 (.mov (.t 6)),qa 73 (.bin .add (.t 72) (qi 1)),qa 6 (.mov (.t 73))] [3,6,35,36,37]))))) (.region [] [3,6,35,36,37])) (.region [qa 74 (.bin .add (.t 37) (qi 1)),qa 37 (.mov (.t 74))] [3,6,35,36,37])))))) (.region [] [3,6]))) (qs (.region [qa 75 (.mov (.t 3)),qa 76 (.mov (.t 6)),qa 77 (.slice 2 (.t 75) none (some (.t 76))),qa 2 (.mov (.t 77))] [2]) .ret))))))
theorem c183w:fnAt Go.Proofs.Tryz.prog 183 [3000031]=some (r183w,s183w):=by kernel_rfl
def r215w:List (Nat×Option (Bool×Nat)):=[]
def s215w:SCode:=qs (.region [qa 3 (.boxR 7 (.t 0))] [1,2,3]) (qs (.region [qa 5 (.mov (.t 1)),qa 6 (.not (.t 5))] [2,3,6]) (.cond (.t 6) (.region [qa 7 (ql (.t 2)),qa 8 (.load true 7 (.t 3)),qa 9 (.buildS 100 7 1 [.int .i64 0,.str [],.int .i64 0,.int .i64 0,.int .i64 0,.str [],.nil] [(0,.t 8)]),qa 10 (.raw (.call (.mk (.builtin .append) #[.tmp 7,.tmp 9] #[96,96]))),⟨none,none,.store 1 (.t 2) (.t 10)⟩] []) .skip))
theorem c215w:fnAt Go.Proofs.Tryz.prog 215 [2000003,3000010]=some (r215w,s215w):=by kernel_rfl
def r355w:List (Nat×Option (Bool×Nat)):=[(6,none)]
def s355w:SCode:=qs (.region [qa 6 (.mov (.c .nil))] [0,1,2]) (qs (.region [qa 13 (.mov (.t 0)),qa 14 (.call (.f 183) [.t 13]),qa 15 (.mov (.t 1)),qa 16 (.call (.f 183) [.t 15]),qa 0 (.mov (.t 14)),qa 1 (.mov (.t 16))] [0,1,2]) (qs (.region [qa 7 (.mov (.c .nil))] [0,1,2,7]) (qs (qs (.region [qa 17 (.mov (.t 0)),qa 18 (.call (.f 374) [.t 17]),qa 19 (.mov (.t 1)),qa 20 (.raw (.call (.mk (.builtin .append) #[.tmp 18,.tmp 19] #[160,160]))),qa 21 (.len (.t 20)),qa 22 (.mov (qi 0))] [0,1,2,7,20,21,22]) (qs (.block 0 (.loop (qs (.region [qa 23 (.bin .lss (.t 22) (.t 21))] [0,1,2,7,20,21,22,23]) (qs (.cond (.t 23) .skip (.exit 0)) (qs (qs (.block 1 (qs (.region [qa 24 (.indexA 2 (.t 20) (.t 22)),qa 25 (.load true 2 (.t 24)),qa 9 (.alloc 255 Zg1),⟨none,none,.store 2 (.t 9) (.t 25)⟩] [0,1,2,7,9,20,21,22]) (.region [qa 26 (.mov (.t 7)),qa 27 (.fieldA 0 (.t 9)),qa 28 (ql (.t 27)),qa 29 (.fieldA 1 (.t 9)),qa 30 (ql (.t 29)),qa 31 (.buildS 3 1 2 Zg1 [(0,.t 28),(1,.t 30)]),qa 32 (.raw (.call (.mk (.builtin .append) #[.tmp 26,.tmp 31] #[131,131]))),qa 7 (.mov (.t 32))] [0,1,2,7,20,21,22]))) (.region [] [0,1,2,7,20,21,22])) (.region [qa 33 (.bin .add (.t 22) (qi 1)),qa 22 (.mov (.t 33))] [0,1,2,7,20,21,22])))))) (.region [] [0,1,2,7]))) (qs (.region [qa 34 (.mov (.t 7)),qa 35 (.call (.f 375) [.t 34])] [0,1,2,7]) (qs (.region [qa 36 (.mov (.t 7)),qa 37 (.call (.f 376) [.t 36]),qa 7 (.mov (.t 37))] [0,1,2,7]) (qs (.region [qa 10 (.mov (.c .nil))] [0,1,2,7,10]) (qs (qs (.region [qa 11 (.mov (qi 1))] [0,1,2,7,10,11]) (qs (.block 2 (.loop (qs (qs (.region [qa 38 (.mov (.t 11)),qa 39 (.mov (.t 7)),qa 40 (.len (.t 39)),qa 41 (.bin .lss (.t 38) (.t 40))] [0,1,2,7,10,11,41]) (.cond (.t 41) .skip (.exit 2))) (qs (qs (.block 3 (qs (.region [qa 44 (.mov (.t 7)),qa 45 (.mov (.t 11)),qa 46 (.bin .sub (.t 45) (qi 1)),qa 47 (.indexA 1 (.t 44) (.t 46)),qa 48 (ql (.t 47)),qa 12 (.mov (.t 48))] [0,1,2,7,10,11,12]) (qs (.region [qa 49 (.mov (.t 2)),qa 50 (.mov (.t 0)),qa 51 (.mov (.t 12)),qa 52 (.call (.f 182) [.t 50,.t 51]),qa 53 (.mov (.t 1)),qa 54 (.mov (.t 12)),qa 55 (.call (.f 182) [.t 53,.t 54]),qa 56 (.call (.t 49) [.t 52,.t 55])] [0,1,2,7,10,11,12,56]) (.cond (.t 56) (.region [qa 57 (.mov (.t 10)),qa 58 (.mov (.t 12)),qa 59 (.mov (.t 7)),qa 60 (.mov (.t 11)),qa 61 (.indexA 1 (.t 59) (.t 60)),qa 62 (ql (.t 61)),qa 63 (.build Zg1 [(0,(1,.t 58)),(1,(1,.t 62))]),qa 64 (.buildS 255 2 1 Zg1 [(0,.t 63)]),qa 65 (.append 255 2 16 (.t 57) (.t 64)),qa 10 (.mov (.t 65))] [0,1,2,7,10,11]) .skip)))) (.region [] [0,1,2,7,10,11])) (.region [qa 42 (.mov (.t 11)),qa 43 (.bin .add (.t 42) (qi 1)),qa 11 (.mov (.t 43))] [0,1,2,7,10,11]))))) (.region [] [10]))) (qs (.region [qa 66 (.mov (.t 10)),qa 67 (.call (.f 183) [.t 66]),qa 6 (.mov (.t 67))] [6]) .ret))))))))
theorem c355w:fnAt Go.Proofs.Tryz.prog 355 [3000020,3000032]=some (r355w,s355w):=by kernel_rfl
def r374w:List (Nat×Option (Bool×Nat)):=[(2,none)]
def s374w:SCode:=qs Zg2 (qs (qs (.region [qa 3 (.mov (.t 0)),qa 4 (.eqnil 0 false (.t 3))] [0,4]) (.cond (.t 4) (qs (.region [qa 2 (.mov (.c .nil))] [2]) .ret) .skip)) (qs (.region [qa 5 (.raw (.buildSlice 160 0 #[])),qa 6 (.mov (.t 0)),qa 7 (.raw (.call (.mk (.builtin .append) #[.tmp 5,.tmp 6] #[160,160]))),qa 2 (.mov (.t 7))] [2]) .ret))
theorem c374w:fnAt Go.Proofs.Tryz.prog 374 [3000005,3000007]=some (r374w,s374w):=by kernel_rfl
end Go.Av
namespace Go.Av
open Go Go.RowKit Go.Proofs List
set_option linter.unusedSimpArgs false
set_option linter.unusedVariables false
def Ends (D:List Int) (ps:List (Int×Int)):Prop:=∀p∈ps,p.1∈D/\p.2∈D
theorem dk (l:List (Int×Int)):∀r∈l.map spc,r.length=2:=by
 intro r E
 obtain⟨p,_,rfl⟩:=mem_map.1 E
 rfl
theorem wkS {G:Glob} {env:Env} {σ σ':Store} (E:SubN σ' σ):Weak G env σ env σ':=λρ w tmps I F=>⟨I.subN E,Ev.of_sub E.1 w,λj=>Rep.ev (Ev.of_sub E.1 w) _ _ (F j)⟩
theorem eW (D:List Int):Ends D []:=λp E=>by cases E
section
variable {G:Glob} {P:Program} {env:Env} {σ:Store} {K:AV->Store->Prop}
theorem nG {a b:Int} {x y:Operand} {V:Array TypeId} (O:(SOpd.of x).eval G env= .int .i64 a) (T:(SOpd.of y).eval G env= .int .i64 b) (M:K (.int .i64 (max a b)) σ):
  RAW G P (.call (.mk (.builtin .max) #[x,y] V)) env σ K ⟨⟩:=by
 refine ca (.int .i64 (max a b)) (λρ w X o N J I=>?_) M
 have E:=ar J I x
 have F:=ar J I y
 rw[O]at E;rw[T]at F
 simp only[Rep]at E F
 exact⟨.int .i64 (max a b),by simp[execOp,N,resolve,invoke,builtin,E,F,Lib.run_max_ints],by simp only[Rep]⟩
theorem RAW_minO {a b:Int} {x y:Operand} {V:Array TypeId} (O:(SOpd.of x).eval G env= .int .i64 a) (T:(SOpd.of y).eval G env= .int .i64 b) (M:K (.int .i64 (min a b)) σ):
  RAW G P (.call (.mk (.builtin .min) #[x,y] V)) env σ K ⟨⟩:=by
 refine ca (.int .i64 (min a b)) (λρ w X o N J I=>?_) M
 have E:=ar J I x
 have F:=ar J I y
 rw[O]at E;rw[T]at F
 simp only[Rep]at E F
 exact⟨.int .i64 (min a b),by simp[execOp,N,resolve,invoke,builtin,E,F,Lib.run_min_ints],by simp only[Rep]⟩
end
def WSp (ps:List (Int×Int)) (xv:AV) (κ:Store):Prop:=
 (ps=[]/\κ=[]/\xv= .nil)\/∃b cap pad,xv=rawS b ps.length cap/\κ=[(b,.cells 255 ((ps.map spc).flatten++pad))]/\ps.length<=cap/\cap<=maxLen/\((ps.map spc).flatten++pad).length=cap*2/\1<=ps.length
def eK (G:Glob):Prop:=∀(ps:List (Int×Int)) (xv:AV) (κ:Store),ps.length<1000000->WSp ps xv κ->
 aj G Tryz.prog 228 [xv,.sc (.func (.func 229) #[] #[])] κ (λr σ'=>r= .tup []/\∃qs,qs.length=ps.length/\(∀q∈qs,q∈ps)/\WSp qs xv σ')
theorem WSp.ws {ps:List (Int×Int)} {xv:AV} {κ:Store} (h:WSp ps xv κ):∃g,WS κ 255 2 xv (ps.map spc) g/\(∀b,g=some b->κ.keys=[b])/\(g=none->κ=[])/\(∀b,g=some b->κ.erase (some b)=[]):=by
 rcases h with⟨rfl,rfl,rfl⟩|⟨b,cap,pad,rfl,rfl,F,I,J,_⟩
 ·exact⟨none,.inl ⟨rfl,rfl,.inl rfl⟩,λb h=>(by cases h),λ_=>rfl,λb h=>(by cases h)⟩
 ·exact⟨some b,.inr ⟨b,cap,pad,rfl,by rw[length_map],by simp[Store.get],dk ps,J,by rw[length_map];exact F,I⟩,λq E=>by injection E with E;subst E;rfl,λh=>(by cases h),λq E=>by injection E with E;subst E;simp[Store.erase]⟩
theorem RowF.snd {L:List (List AV)} {pad:List AV} {i:Nat} {a b:AV} (h:∀r∈L,r.length=2) (hi:i<L.length) (M:L.getD i []=[a,b]):
  ((L.flatten++pad).drop (0+i*2+1)).headD .any=b/\1<=((L.flatten++pad).drop (0+i*2+1)).length/\0+i*2+1+1<=(L.flatten++pad).length/\∀c:AV,splice (L.flatten++pad) (0+i*2+1) [c]=(L.set i [a,c]).flatten++pad:=by
 have I:=rowF (pad:=pad) h hi
 have E:=I.get
 have F:=I.len
 have V:=I.fit
 rw[M]at E
 have O:(L.flatten++pad).drop (0+i*2+1)=((L.flatten++pad).drop (0+i*2)).drop 1:=by rw[drop_drop]
 rw[O]
 rcases J:(L.flatten++pad).drop (0+i*2)with _|⟨x,_|⟨y,r⟩⟩
 ·rw[J]at F;simp at F
 ·rw[J]at F;simp at F
 ·rw[J]at E
  simp only[take_succ_cons,take_zero,List.cons.injEq,and_true]at E
  obtain⟨rfl,rfl⟩:=E
  refine⟨rfl,by simp,by omega,λc=>?_⟩
  have N:=cS (sz:=2) (c:=[c]) (off:=1) (by simp) (pad:=pad) h hi
  have T:L[i]=[x,y]:=by rw[getD_eq_getElem?_getD,getElem?_eq_getElem hi]at M;exact M
  rw[T]at N
  rw[Nat.zero_add,N]
  rfl
theorem WS.more {κ:Store} {e:TypeId} {sz:Nat} {xv:AV} {rows:List (List AV)} {g:Option Nat} (h:WS κ e sz xv rows g) (pre:Store) (M:∀b,g=some b->b∉Store.keys pre):WS (pre++κ) e sz xv rows g:=by
 rcases h with h|⟨b,cap,pad,E,F,I,J⟩
 ·exact .inl h
 ·exact .inr ⟨b,cap,pad,E,F,by rw[ao (M b E)];exact I,J⟩
section
variable (G:Glob)
set_option maxHeartbeats 8000000 in
theorem norm_open (bp:eK G) (D:List Int) (h0:(0:Int)∈D) (hF:(1048577:Int)∈D) (l:List (Int×Int)) (hl:l.length<100000) (hD:Ends D l):
  aj G Tryz.prog 183 [.lst 2 (l.map spc)] [] (λr σ'=>∃ps,Ends D ps/\ps.length<=l.length/\aO 255 2 (ps.map spc) r σ'):=by
 have bm:(l.map spc).length=l.length:=length_map _
 refine aj.w c183w ?_
 unfold s183w r183w
 (repeat' (first|(with_reducible (first|refine ab (λh=>?_) (λh=>?_)|refine ai (λh=>?_) (λh=>?_)|refine ak (λh=>?_) (λh=>?_))<;>(try simp only[DZ]at h))|(with_reducible refine AI (by omega) ?_)|simp only[EVz,seval,↓reduceIte,EV6,EV7,bm]|(with_reducible intro T I;(try(have E:=I;simp only[EVK]at E;first|(have F:=AI E F)|(have F:=E))))|(with_reducible first|refine ae ?_ ?_|refine af ?_)|(exfalso;omega)))
 refine ax (ι:=List (Int×Int)×AV×Store) l (λi r c=>c.1.length<=i/\Ends D c.1/\WSp c.1 c.2.1 c.2.2) (λi c=>[(3,c.2.1),(9,.lst 2 (l.map spc)),(10,.int .i64 l.length),(11,.int .i64 i)]) (λi c=>c.2.2) ([],.nil,[]) ⟨Nat.le_refl _,eW D,Or.inl ⟨rfl,rfl,rfl⟩⟩ (Weak.rfl' _ _) (by omega) (λi x r c Y M hw=>?_) (λc Y hn=>?_)
 ·obtain⟨bk,ac,ad⟩:=Y
  obtain⟨ps,xv,κ⟩:=c
  simp only at bk ac ad ⊢
  have F:=True.intro
  have bx:=hD x M.mem
  have cl:=M.lt
  obtain⟨g,e2,e3,e7,e8⟩:=ad.ws
  have dc:max x.1 0∈D:=by rw[Int.max_def];split;exact h0;exact bx.1
  have bo:min x.2 1048577∈D:=by rw[Int.min_def];split;exact bx.2;exact hF
  (repeat' (first|(with_reducible (first|refine ab (λh=>?_) (λh=>?_)|refine ai (λh=>?_) (λh=>?_)|refine ak (λh=>?_) (λh=>?_))<;>(try simp only[DZ]at h))|(with_reducible refine AI (by omega) ?_)|simp only[EVz,seval,↓reduceIte,EV6,EV7,M.yes,M.le0,M.lt',M.get,M.row,hw,bm,spc,F]|simp only[EVz,seval,↓reduceIte,EV6,EV7,M.yes,M.le0,M.lt',M.get,M.row,hw,bm,spc]|(with_reducible intro T I;(try(have E:=I;simp only[EVK]at E;first|(have F:=AI E F)|(have F:=E))))|(with_reducible first|refine ae ?_ ?_|refine af ?_)|(refine nG rfl rfl ?_)|(refine RAW_minO rfl rfl ?_)|(refine⟨[[.int .i64 (max x.1 0),.int .i64 (min x.2 1048577)]],rfl,(by simp),(by simp),?_⟩)|(exfalso;omega)))
  rotate_left
  ·exact am M (ps,xv,κ) ⟨by simp only;omega,ac,ad⟩ (wkS (SubN.tail (SubN.refl _) _))
  rename_i b5 bh
  refine aY (e:=255) (e':=255) (sz:=2) (bytes:=16) (rows:=ps.map spc) (ys:=[[.int .i64 (max x.1 0),.int .i64 (min x.2 1048577)]]) (g:=g) (xv:=xv) (by kernel_rfl) (by kernel_rfl) (by kernel_rfl) (by kernel_rfl) (by decide) (by decide) rfl (e2.more [(T,_),(b5,_)] (λb hb=>by have h1:=e3 b hb;rw[h1]at bh E;simp at bh E;simp[Store.keys];exact⟨λe=>E.2 e.symm,λe=>bh e.symm⟩)) ⟨rfl,rfl⟩ (by simp;omega) (λ_ h=>by cases h) (λb cap pad hb k1 k2 k3 k4=>?_)
  have e:ps.map spc++[[AV.int .i64 (max x.1 0),.int .i64 (min x.2 1048577)]]=(ps++[(max x.1 0,min x.2 1048577)]).map spc:=by simp[spc]
  rw[e]at k1 k3 k4 ⊢
  rw[length_map]at k1 ⊢
  (repeat' (first|(with_reducible (first|refine ab (λh=>?_) (λh=>?_)|refine ai (λh=>?_) (λh=>?_)|refine ak (λh=>?_) (λh=>?_))<;>(try simp only[DZ]at h))|(with_reducible refine AI (by omega) ?_)|simp only[EVz,seval,↓reduceIte,EV6,EV7,hw,F]|simp only[EVz,seval,↓reduceIte,EV6,EV7,hw]|(with_reducible intro T I;(try(have E:=I;simp only[EVK]at E;first|(have F:=AI E F)|(have F:=E))))|(with_reducible first|refine ae ?_ ?_|refine af ?_)|(exfalso;omega)))
  refine am M (ps++[(max x.1 0,min x.2 1048577)],rawS b (ps++[(max x.1 0,min x.2 1048577)]).length cap,[(b,.cells 255 (((ps++[(max x.1 0,min x.2 1048577)]).map spc).flatten++pad))]) ⟨by simp;omega,?_,.inr ⟨b,cap,pad,rfl,rfl,k1,k2,k4,by simp⟩⟩ (wkS ⟨λq hq=>by simp only[mem_singleton]at hq;subst hq;exact mem_cons_self,λ_=>by simp[Store.keys]⟩)
  intro p hp
  rcases mem_append.1 hp with hp|hp
  ·exact ac p hp
  ·simp only[mem_singleton]at hp;subst hp;exact⟨dc,bo⟩
 ·obtain⟨bk,ac,ad⟩:=Y
  obtain⟨ps,xv,κ⟩:=c
  simp only at bk ac ad ⊢
  have e6:=bp ps xv κ (by omega) ad
  have F:=True.intro
  (repeat' (first|(with_reducible (first|refine ab (λh=>?_) (λh=>?_)|refine ai (λh=>?_) (λh=>?_)|refine ak (λh=>?_) (λh=>?_))<;>(try simp only[DZ]at h))|(with_reducible refine AI (by omega) ?_)|simp only[EVz,seval,↓reduceIte,EV6,EV7,hn]|(with_reducible intro T I;(try(have E:=I;simp only[EVK]at E;first|(have F:=AI E F)|(have F:=E))))|(with_reducible first|refine ae ?_ ?_|refine af ?_)|(exfalso;omega)))
  refine dE e6 ?_
  rintro _ ds ⟨rfl,qs,dc,bo,dd⟩
  have e5:Ends D qs:=λq hq=>ac q (bo q hq)
  have bb:∀J κ,WSp J xv κ->J.length=qs.length->((xv= .nil/\qs.length=0)\/∃b cap pad,xv=rawS b qs.length cap/\κ=[(b,.cells 255 ((J.map spc).flatten++pad))]/\qs.length<=cap/\cap<=maxLen/\((J.map spc).flatten++pad).length=cap*2/\1<=qs.length):=λJ κ h he=>by
   rcases h with⟨rfl,_,rfl⟩|⟨b,cap,pad,h1,h2,h3,h4,h5⟩
   ·exact .inl ⟨rfl,by rw[←he];rfl⟩
   ·rw[he]at h1 h3 h5
    exact .inr ⟨b,cap,pad,h1,h2,h3,h4,h5⟩
  have X:∀(K:AV->Prop) (t:Tag K),kG xv K t=K (.int .i64 qs.length):=λK t=>by
   rcases bb qs ds dd rfl with⟨rfl,h⟩|⟨b,cap,pad,rfl,_⟩
   ·rw[h];rfl
   ·rfl
  (repeat' (first|(with_reducible (first|refine ab (λh=>?_) (λh=>?_)|refine ai (λh=>?_) (λh=>?_)|refine ak (λh=>?_) (λh=>?_))<;>(try simp only[DZ]at h))|(with_reducible refine AI (by omega) ?_)|simp only[EVz,seval,↓reduceIte,EV6,EV7,X]|(with_reducible intro T I;(try(have E:=I;simp only[EVK]at E;first|(have F:=AI E F)|(have F:=E))))|(with_reducible first|refine ae ?_ ?_|refine af ?_)|(exfalso;omega)))
  refine ax (ι:=Nat×List (Int×Int)×Store) qs (λi r c=>c.1<=i/\c.2.1.length=qs.length/\Ends D c.2.1/\WSp c.2.1 xv c.2.2) (λi c=>[(3,xv),(6,.int .i64 c.1),(35,xv),(36,.int .i64 qs.length),(37,.int .i64 i)]) (λi c=>c.2.2) (0,qs,ds) ⟨Nat.le_refl _,rfl,e5,dd⟩ (Weak.rfl' _ _) (by omega) (λi x r c Y M hw=>?_) (λc Y cp=>?_)
  ·obtain⟨k,J,bw⟩:=c
   obtain⟨hk,N,V,bd⟩:=Y
   simp only at hk N V bd ⊢
   have cl:=M.lt
   rcases bb J bw bd N with⟨_,h⟩|⟨b,cap,pad,ag,rfl,h1,h2,h3,h4⟩
   ·omega
   have hg:∀j,j<qs.length->∃p,(J.map spc).getD j []=spc p/\p∈J:=λj hj=>⟨J[j]'(by omega),by rw[getD_eq_getElem?_getD,getElem?_map,getElem?_eq_getElem (by omega)];rfl,getElem_mem _⟩
   obtain⟨p,hp,e4⟩:=hg i cl
   have r1:=rowF (pad:=pad) (dk J) (i:=i) (by rw[length_map];omega)
   obtain⟨a1,a2,a3,a4,a5⟩:=r1
   rw[hp]at a1
   have cw:=V p e4
   have ea:(i:Int)<(qs.length:Int):=by omega
   have be:IntKind.i64.wrap ((k:Int)+1)=((k+1:Nat):Int):=by rw[av (by omega) (by omega)];omega
   have c0:=rowF (pad:=pad) (dk J) (i:=k) (by rw[length_map];omega)
   have O:=c0.set (spc p) rfl
   have e0:=c0.fit
   have d0:((J.map spc).set k (spc p)).flatten++pad=((J.set k p).map spc).flatten++pad:=by rw[map_set]
   rw[d0]at O
   simp only[spc]at a1 O
   have an:WSp (J.set k p) xv [(b,.cells 255 (((J.set k p).map spc).flatten++pad))]:=by
    refine .inr ⟨b,cap,pad,?_,rfl,?_,h2,?_,by rw[length_set,N];exact h4⟩
    ·rw[length_set,N];exact ag
    ·rw[length_set,N];exact h1
    ·rw[←h3,length_append,length_append,ap _ (dk _),ap _ (dk _),length_map,length_map,length_set]
   have ah:Ends D (J.set k p):=λq hq=>by
    rcases mem_or_eq_of_mem_set hq with hq|rfl
    ·exact V q hq
    ·exact cw
   subst ag
   by_cases cm:0<k
   ·have e1:decide ((0:Int)<(k:Int))=true:=decide_eq_true (by omega)
    have w1:=kC (x:=k) (by omega) (by omega)
    obtain⟨q,hq,dl⟩:=hg (k-1) (by omega)
    obtain⟨d1,d2,d3,d4⟩:=RowF.snd (pad:=pad) (dk J) (i:=k-1) (by rw[length_map];omega) hq
    have Z:=d4 (.int .i64 (max q.2 p.2))
    have bn:((J.map spc).set (k-1) [AV.int .i64 q.1,.int .i64 (max q.2 p.2)]).flatten++pad=((J.set (k-1) (q.1,max q.2 p.2)).map spc).flatten++pad:=by rw[map_set];rfl
    rw[bn]at Z
    have e9:((k-1:Nat):Int)<(qs.length:Int):=by omega
    have aw:WSp (J.set (k-1) (q.1,max q.2 p.2)) (rawS b qs.length cap) [(b,.cells 255 (((J.set (k-1) (q.1,max q.2 p.2)).map spc).flatten++pad))]:=by
     refine .inr ⟨b,cap,pad,by rw[length_set,N],rfl,by rw[length_set,N];exact h1,h2,?_,by rw[length_set,N];exact h4⟩
     rw[←h3,length_append,length_append,ap _ (dk _),ap _ (dk _),length_map,length_map,length_set]
    have al:Ends D (J.set (k-1) (q.1,max q.2 p.2)):=λy hy=>by
     rcases mem_or_eq_of_mem_set hy with hy|rfl
     ·exact V y hy
     ·refine⟨(V q dl).1,?_⟩
      simp only[Int.max_def];split
      ·exact cw.2
      ·exact(V q dl).2
    (repeat' (first|(with_reducible (first|refine ab (λh=>?_) (λh=>?_)|refine ai (λh=>?_) (λh=>?_)|refine ak (λh=>?_) (λh=>?_))<;>(try simp only[DZ]at h))|(with_reducible refine AI (by omega) ?_)|simp only[EVz,seval,↓reduceIte,EV6,EV7,M.yes,M.le0,M.lt',hw,X,a1,d1,O,Z,e1,w1,be,Int.toNat_natCast,F]|simp only[EVz,seval,↓reduceIte,EV6,EV7,M.yes,M.le0,M.lt',hw,X,a1,d1,O,Z,e1,w1,be,Int.toNat_natCast]|(with_reducible intro T I;(try(have E:=I;simp only[EVK]at E;first|(have F:=AI E F)|(have F:=E))))|(with_reducible first|refine ae ?_ ?_|refine af ?_)|(refine nG rfl rfl ?_)|(exfalso;omega)))
    all_goals first|exact am M (k,J.set (k-1) (q.1,max q.2 p.2),[(b,.cells 255 (((J.set (k-1) (q.1,max q.2 p.2)).map spc).flatten++pad))]) ⟨by simp only;omega,by simp only[length_set];exact N,al,aw⟩ (wkS (SubN.tail (SubN.refl _) _))|exact am M (k+1,J.set k p,[(b,.cells 255 (((J.set k p).map spc).flatten++pad))]) ⟨by simp only;omega,by simp only[length_set];exact N,ah,an⟩ (wkS (SubN.tail (SubN.refl _) _))|exact am M (k,J.set (k-1) (q.1,max q.2 p.2),[(b,.cells 255 (((J.set (k-1) (q.1,max q.2 p.2)).map spc).flatten++pad))]) ⟨by simp only;omega,by simp only[length_set];exact N,al,aw⟩ (wkS (SubN.tail (SubN.refl _) _))
   ·have e1:decide ((0:Int)<(k:Int))=false:=decide_eq_false (by omega)
    (repeat' (first|(with_reducible (first|refine ab (λh=>?_) (λh=>?_)|refine ai (λh=>?_) (λh=>?_)|refine ak (λh=>?_) (λh=>?_))<;>(try simp only[DZ]at h))|(with_reducible refine AI (by omega) ?_)|simp only[EVz,seval,↓reduceIte,EV6,EV7,M.yes,M.le0,M.lt',hw,X,a1,O,e1,be,Int.toNat_natCast,F]|simp only[EVz,seval,↓reduceIte,EV6,EV7,M.yes,M.le0,M.lt',hw,X,a1,O,e1,be,Int.toNat_natCast]|(with_reducible intro T I;(try(have E:=I;simp only[EVK]at E;first|(have F:=AI E F)|(have F:=E))))|(with_reducible first|refine ae ?_ ?_|refine af ?_)|(exfalso;omega)))
    all_goals exact am M (k+1,J.set k p,[(b,.cells 255 (((J.set k p).map spc).flatten++pad))]) ⟨by simp only;omega,by simp only[length_set];exact N,ah,an⟩ (wkS (SubN.tail (SubN.refl _) _))
  ·obtain⟨k,J,bw⟩:=c
   obtain⟨hk,N,V,bd⟩:=Y
   simp only at hk N V bd ⊢
   rcases bb J bw bd N with⟨ag,h⟩|⟨b,cap,pad,ag,rfl,h1,h2,h3,h4⟩
   ·subst ag
    have cm:k=0:=by omega
    subst cm
    (repeat' (first|(with_reducible (first|refine ab (λh=>?_) (λh=>?_)|refine ai (λh=>?_) (λh=>?_)|refine ak (λh=>?_) (λh=>?_))<;>(try simp only[DZ]at h))|(with_reducible refine AI (by omega) ?_)|simp only[EVz,seval,↓reduceIte,EV6,EV7,cp,X]|(with_reducible intro T I;(try(have E:=I;simp only[EVK]at E;first|(have F:=AI E F)|(have F:=E))))|(with_reducible first|refine ae ?_ ?_|refine af ?_)|(exfalso;omega)))
    all_goals exact⟨.sc (.slice none 0 0),[],Or.inl (Or.inr rfl),SubN.nil _,[],eW D,Nat.zero_le _,aO.nil⟩
   ·subst ag
    (repeat' (first|(with_reducible (first|refine ab (λh=>?_) (λh=>?_)|refine ai (λh=>?_) (λh=>?_)|refine ak (λh=>?_) (λh=>?_))<;>(try simp only[DZ]at h))|(with_reducible refine AI (by omega) ?_)|simp only[EVz,seval,↓reduceIte,EV6,EV7,cp,X,Int.toNat_natCast]|(with_reducible intro T I;(try(have E:=I;simp only[EVK]at E;first|(have F:=AI E F)|(have F:=E))))|(with_reducible first|refine ae ?_ ?_|refine af ?_)|(exfalso;omega)))
    refine retI ⟨J.take k,λy hy=>V y (mem_of_mem_take hy),by rw[length_take];omega,?_⟩
    rw[Nat.sub_zero,Nat.sub_zero]
    have ch:(J.map spc).flatten++pad=((J.take k).map spc).flatten++(((J.drop k).map spc).flatten++pad):=by rw[←append_assoc,←flatten_append,←map_append,take_append_drop]
    rw[ch]at h3 ⊢
    exact aO.mk (by rw[length_map,length_take];omega) (by rw[length_map,length_take];omega) h2 (dk _) h3
end
theorem rowPut {α:Type} [Inhabited α] {G:Glob} {ρ:Store} {w:World} {b:Nat} {e:TypeId} {cs c:List AV} (enc:α->Value) (d:Array α) (n:Nat) (os:Array Obj)
  (Y:Sat G ([(b,.cells e cs)]++ρ) w) (r1:RepL ([(b,.cells e cs)]++ρ) w c (d.toList.map enc)) (r2:∀x∈d.toList,(enc x).oneCell'=true) (ac:c.length<=cs.length):
  Sat G ([(b,.cells e (splice cs 0 c))]++ρ) (Sort.grow (Sort.putRow enc (Sort.ahead w n) b 0 d) os)/\Ev [(b,.cells e cs)] w [(b,.cells e (splice cs 0 c))] (Sort.grow (Sort.putRow enc (Sort.ahead w n) b 0 d) os):=by
 obtain⟨vs,Z,ad,M,F⟩:=Sat.setRow (σ:=[(b,.cells e cs)]) (b:=b) (e:=e) (cs:=cs) (off:=0) Y (by simp[Store.get]) r1 (λv hv=>by obtain⟨x,hx,rfl⟩:=mem_map.1 hv;exact r2 x hx) (by omega)
 have hl:=r1.length
 simp only[length_map,Array.length_toList]at hl
 have V:Store.set [(b,AObj.cells e cs)] b (.cells e (splice cs 0 c))=[(b,.cells e (splice cs 0 c))]:=by simp[Store.set]
 rw[V]at M F
 obtain⟨w2,I⟩:∃w2,w.setRow b (vs.toList.take 0++d.toList.map enc++vs.toList.drop (0+(d.toList.map enc).length)).toArray=w2:=⟨_,rfl⟩
 rw[I]at M F
 have E:(Sort.putRow enc (Sort.ahead w n) b 0 d).heap=w2.heap:=by
  rw[←I]
  unfold Sort.putRow Sort.mapBlock World.setRow Sort.ahead
  simp only
  apply Array.ext_getElem?
  intro k
  rw[Array.getElem?_modify,Array.getElem?_modify]
  by_cases T:b=k
  ·subst T
   rw[if_pos rfl,if_pos rfl,Z]
   simp only[Option.map_some,Sort.onCells]
   congr 2
   apply Array.ext_getElem?
   intro j
   unfold Sort.putCells
   rw[Array.getElem?_mapIdx]
   by_cases O:j<d.size
   ·have J:j<vs.size:=by omega
    rw[Array.getElem?_eq_getElem J,Option.map_some,if_pos ⟨by omega,by omega⟩]
    simp[getElem?_append,O,Array.getElem?_eq_getElem O,getElem!_pos d j O]
   ·by_cases J:j<vs.size
    ·rw[Array.getElem?_eq_getElem J,Option.map_some,if_neg (by omega)]
     simp[getElem?_append,O,getElem?_drop]
     rw[show d.size+(j-d.size)=j by omega,Array.getElem?_eq_getElem J]
    ·rw[Array.getElem?_eq_none (by omega)]
     simp[getElem?_append,O,getElem?_drop]
     omega
  ·rw[if_neg T,if_neg T]
 have N:Below w2.heap.size w2 (Sort.grow (Sort.putRow enc (Sort.ahead w n) b 0 d) os):=by
  refine⟨by rw[←I];rfl,by rw[←I];rfl,by rw[←I];rfl,?_,λk T=>?_⟩
  ·show w2.heap.size<=(_++os).size
   rw[E,Array.size_append];omega
  ·show(_++os)[k]? =_
   rw[E,Array.getElem?_append_left T]
 have X:=Ev.frame (σr:=[(b,AObj.cells e (splice cs 0 c))]) (Ev.below N) (σ:=[(b,AObj.cells e (splice cs 0 c))]) (λq hq=>by simpa using hq)
 exact⟨F.below N,M.trans (by simpa using X)⟩
theorem aj.freezeQ {G:Glob} {P:Program} {k:FuncId} {args:List AV} {e:TypeId} {sz:Nat} {α:Type} {row:α->List (List AV)} {Q:α->Prop} (h:aj G P k args [] (λr σ=>∃a,Q a/\aO e sz (row a) r σ)):
  aj G P k args [] (λr σ=>σ=[]/\∃a,Q a/\r= .lst sz (row a)):=
 ⟨h.1,λρ w vs V N=>(h.2 ρ w vs V N).mono λe' w' ⟨v,r,σ',X,⟨a,T,O⟩,E,M,I⟩=>by
  have J:Sub ([]:Store) σ':=λq F=>by cases F
  exact⟨v,.lst sz (row a),[],X,⟨rfl,a,T,rfl⟩,E.subN ⟨λq F=>(by cases F),λ_=>nodup_nil⟩,M.trans (Ev.of_sub J _),by simpa using O.freeze E (λq F=>F) I⟩⟩
def Spn (D:List Int) (n:Nat):AV->Prop:=λr=>∃ps:List (Int×Int),(Ends D ps/\ps.length<=n)/\r= .lst 2 (ps.map spc)
section
variable (G:Glob)
theorem f183 (E:eK G) (D:List Int) (F:(0:Int)∈D) (O:(1048577:Int)∈D) (l:List (Int×Int)) (T:l.length<100000) (N:Ends D l):
  aj G Tryz.prog 183 [.lst 2 (l.map spc)] [] (λr σ'=>σ'=[]/\Spn D l.length r):=
 aj.freezeQ (row:=λps:List (Int×Int)=>ps.map spc) (Q:=λps=>Ends D ps/\ps.length<=l.length) ((norm_open G E D F O l T N).mono λr σ ⟨ps,I,J,M⟩=>⟨ps,⟨I,J⟩,M⟩)
theorem f123 (E:eK G) (D:List Int) (F:(0:Int)∈D) (J:(1048577:Int)∈D) (l:List (Int×Int)) (O:l.length<100000) (I:Ends D l) (d:Int):
  aj G Tryz.prog 123 [.lst 2 (l.map spc),.int .i64 d] [] (λr σ'=>σ'=[]/\∃b,r= .bool b):=by
 have N:=f183 G E D F J l O I
 refine aj.w c123 ?_
 unfold s123 r123
 (try simp only[EVz,seval,↓reduceIte,EV6,EV7])
 refine bf N ?_
 rintro _ ⟨ps,⟨T,V⟩,rfl⟩
 have M:=f182 G ps (by omega) d
 (try simp only[EVz,seval,↓reduceIte,EV6,EV7])
 refine bf M ?_
 rintro _ ⟨b,rfl⟩
 (try simp only[EVz,seval,↓reduceIte,EV6,EV7])
 exact retI ⟨rfl,_,rfl⟩
end
theorem dM (l:List Int):∀r∈l.map drow,r.length=1:=by
 intro r E
 obtain⟨p,_,rfl⟩:=mem_map.1 E
 rfl
theorem icell {cur:List Int} {pad:List AV} {i o:Nat} (O:o=i) (hi:i<cur.length):
  (((cur.map drow).flatten++pad).drop o).headD .any= .int .i64 (cur.getD i 0)/\1<=(((cur.map drow).flatten++pad).drop o).length/\o+1<=((cur.map drow).flatten++pad).length/\∀v:Int,splice ((cur.map drow).flatten++pad) o [.int .i64 v]=((cur.set i v).map drow).flatten++pad:=by
 subst O
 have I:=rowF (pad:=pad) (dM cur) (i:=o) (by rw[length_map];exact hi)
 have N:(cur.map drow).getD o []=drow (cur.getD o 0):=by simp[getD_eq_getElem?_getD,getElem?_map,getElem?_eq_getElem hi]
 have E:=I.get
 have F:=I.len
 have M:=I.fit
 rw[N]at E
 simp only[Nat.zero_add,Nat.mul_one]at E F M
 refine⟨?_,F,by omega,λv=>?_⟩
 ·rcases J:((cur.map drow).flatten++pad).drop o with _|⟨x,r⟩
  ·rw[J]at F;simp at F
  ·rw[J]at E
   simp only[take_succ_cons,take_zero,drow,List.cons.injEq,and_true]at E
   rw[E];rfl
 ·have:=I.set (drow v) rfl
  simp only[Nat.zero_add,Nat.mul_one]at this
  rw[map_set]
  exact this
def WIn (zs:List Int) (xv:AV) (κ:Store):Prop:=
 (zs=[]/\κ=[]/\xv= .nil)\/∃b cap pad,xv=rawS b zs.length cap/\κ=[(b,.cells 3 ((zs.map drow).flatten++pad))]/\zs.length<=cap/\cap<=maxLen/\((zs.map drow).flatten++pad).length=cap*1/\1<=zs.length
def SortIn (G:Glob):Prop:=∀(zs:List Int) (xv:AV) (κ:Store),zs.length<1000000->WIn zs xv κ->
 aj G Tryz.prog 375 [xv] κ (λr σ'=>r= .tup []/\∃ys:List Int,ys.length=zs.length/\(∀y∈ys,y∈zs)/\ys.Pairwise (· <= ·)/\WIn ys xv σ')
theorem aj.freezeQs {G:Glob} {P:Program} {k:FuncId} {args:List AV} {σ0:Store} {e:TypeId} {sz:Nat} {α:Type} {row:α->List (List AV)} {Q:α->Prop} (h:aj G P k args σ0 (λr σ=>∃a,Q a/\aO e sz (row a) r σ)):
  aj G P k args σ0 (λr σ=>σ=[]/\∃a,Q a/\r= .lst sz (row a)):=
 ⟨h.1,λρ w vs V N=>(h.2 ρ w vs V N).mono λe' w' ⟨v,r,σ',X,⟨a,T,O⟩,E,M,I⟩=>by
  have J:Sub ([]:Store) σ':=λq F=>by cases F
  exact⟨v,.lst sz (row a),[],X,⟨rfl,a,T,rfl⟩,E.subN ⟨λq F=>(by cases F),λ_=>nodup_nil⟩,M.trans (Ev.of_sub J _),by simpa using O.freeze E (λq F=>F) I⟩⟩
theorem g7 {zs:List Int} (h:zs.Pairwise (· <= ·)) {i j:Nat} (E:i<j) (F:j<zs.length):zs.getD i 0<=zs.getD j 0:=by
 have:=pairwise_iff_getElem.1 h i j (by omega) F E
 simpa[getD_eq_getElem?_getD,getElem?_eq_getElem,F,show i<zs.length by omega]using this
theorem take_step {zs:List Int} (h:zs.Pairwise (· <= ·)) {k:Nat} (M:1<=k) (I:k<zs.length) (O:(zs.take k).Pairwise (· < ·)) (N:zs.getD k 0≠zs.getD (k-1) 0):(zs.take (k+1)).Pairwise (· < ·):=by
 have T:zs.take (k+1)=zs.take k++[zs.getD k 0]:=by rw[take_add_one,getD_eq_getElem?_getD,getElem?_eq_getElem I];rfl
 rw[T,pairwise_append]
 refine⟨O,pairwise_singleton _ _,λa J b F=>?_⟩
 simp only[mem_singleton]at F
 subst F
 obtain⟨i,hi,rfl⟩:=mem_iff_getElem.1 J
 rw[length_take]at hi
 rw[getElem_take]
 have V:zs[i]'(by omega)<=zs.getD (k-1) 0:=by
  by_cases E:i=k-1
  ·subst E;rw[getD_eq_getElem?_getD,getElem?_eq_getElem (by omega)];exact Int.le_refl _
  ·have:=g7 h (show i<k-1 by omega) (by omega)
   rwa [getD_eq_getElem?_getD,getElem?_eq_getElem (by omega)]at this
 have X:=g7 h (show k-1<k by omega) I
 omega
theorem snoc_lt {pre:List Int} (J:pre.Pairwise (· < ·)) (N:1<=pre.length) {v:Int} (F:pre.getD (pre.length-1) 0<v):(pre++[v]).Pairwise (· < ·):=by
 rw[pairwise_append]
 refine⟨J,pairwise_singleton _ _,λa M b I=>?_⟩
 simp only[mem_singleton]at I
 subst I
 obtain⟨i,hi,rfl⟩:=mem_iff_getElem.1 M
 by_cases E:i=pre.length-1
 ·subst E;rwa [getD_eq_getElem?_getD,getElem?_eq_getElem (by omega)]at F
 ·have:=pairwise_iff_getElem.1 J i (pre.length-1) hi (by omega) (by omega)
  rw[getD_eq_getElem?_getD,getElem?_eq_getElem (by omega)]at F
  exact Int.lt_trans this F
end Go.Av

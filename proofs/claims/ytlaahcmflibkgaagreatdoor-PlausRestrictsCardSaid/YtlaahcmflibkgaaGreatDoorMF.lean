/- A part of the proofs of this seat: functions and their contracts. -/
import Derived.Test.YtlaahcmflibkgaaGreatDoorME
set_option linter.unusedVariables false
set_option linter.unusedSimpArgs false
set_option linter.unusedSectionVars false
namespace Go.Ab
open Go Go.Proofs
set_option linter.unusedSimpArgs false
set_option linter.unusedVariables false
set_option maxRecDepth 10000
set_option maxHeartbeats 4000000
variable {T:Nat→Obj→Prop}
def wsL (s:BitVec 64) (n:Nat):List Int:=((List.range n).filter fun i=>s.getLsbD i).map fun i:Nat=>(i:Int)
def packN (v:BitVec 64) (ws:List Int):Nat→BitVec 64
 | 0=>0
 | n+1=>packN v ws n|||(((v >>> (at0 ws n).toNat)&&&1#64) <<< n)
def cell2 (p:PM) (ws:List Int) (a:Nat):List Int:=ws.map fun v=>findL (fun x:Int=>decide (at0 (rowAt p.cell a) x.toNat=at0 (rowAt p.cell a) v.toNat)) ws
def rank2 (p:PM) (ws:List Int) (a:Nat):List Int:=ws.map fun v=>at0 (rowAt p.rank a) v.toNat
def rank3 (p:PM) (ws:List Int) (a:Nat):List Int:=(List.range ws.length).map fun j=>findL (fun y=>at0 (rank2 p ws a) j==y) (ranksOf (cell2 p ws a) (rank2 p ws a) (at0 (cell2 p ws a) j))
def restPM (p:PM) (ws:List Int):PM:=⟨ws.length,p.val.map fun v=>packN v ws ws.length,(List.range p.cell.length).map (cell2 p ws),(List.range p.cell.length).map (rank3 p ws)⟩
def restL (p:PM) (s:BitVec 64):PM×List Int×Int :=
 if checkL p≠0 then (⟨0,[],[],[]⟩,[],checkL p) else if s &&& ~~~(allL p.W)≠0 then (⟨0,[],[],[]⟩,[],2) else if s=0 then (⟨0,[],[],[]⟩,[],6) else (restPM p (wsL s p.W.toNat),wsL s p.W.toNat,0)
abbrev dPLI (x:PM×List Int×Int):D := .tup [dPM x.1,dI x.2.1,.int .i64 x.2.2]
theorem wsL_succ {s:BitVec 64} {n:Nat} : wsL s (n+1)=wsL s n++(if s.getLsbD n=true then [(n:Int)] else []):=by
 unfold wsL
 rw [List.range_succ,List.filter_append,List.map_append]
 congr 1
 by_cases h:s.getLsbD n=true
 ·rw [if_pos h,List.filter_cons,if_pos h];rfl
 ·rw [if_neg h,List.filter_cons,if_neg h];rfl
theorem wsL_len {s:BitVec 64} {n:Nat} : (wsL s n).length≤n:=by
 unfold wsL
 rw [List.length_map]
 have:=List.length_filter_le (fun i=>s.getLsbD i) (List.range n)
 rwa [List.length_range] at this
theorem wsL_mem {s:BitVec 64} {n:Nat} {x:Int} (h:x∈wsL s n):0≤x∧x < n:=by
 obtain ⟨i,hi,rfl⟩:=List.mem_map.1 h
 have:=List.mem_range.1 (List.mem_filter.1 hi).1
 omega
theorem at0_map {l:List Int} {f:Int→Int} {j:Nat} {x:Int} (h:l[j]? = some x):at0 (l.map f) j=f x:=at0_of (by rw [List.getElem?_map,h];rfl)
theorem full_map {l:List Int} {n:Nat} (h:l.length=n):(List.range n).map (fun u=>D.int .i64 (if u < n then at0 l u else 0))=l.map (D.int .i64):=by
 subst h
 refine List.ext_getElem (by simp) fun i h1 h2=>?_
 have hi:i < l.length:=by simpa using h2
 simp [hi,at0,List.getD]
theorem rest_map {l l':List Int} {n:Nat} (h:l.length=n):(List.range n).map (fun u=>D.int .i64 (if u < 0 then at0 l' u else at0 l u))=l.map (D.int .i64):=by
 subst h
 refine List.ext_getElem (by simp) fun i h1 h2=>?_
 have hi:i < l.length:=by simpa using h2
 simp [hi,at0,List.getD]
theorem find_ranks {cell rank:List Int} {c:Int} : ∀ {ks:List Int},c∈ks→findD (ks.map fun c=>(D.int .i64 c,dI (ranksOf cell rank c))) (.int .i64 c)=some (some (dI (ranksOf cell rank c)))
 | [],h=>by cases h
 | k::ks,h=>by
  rw [List.map_cons,findD]
  by_cases e:c=k
  ·subst e
   simp [D.eqk,D.same]
  ·have:c∈ks:=by
    rcases List.mem_cons.1 h with h|h
    ·exact absurd h e
    ·exact h
   simp [D.eqk,D.same,e,find_ranks this]
theorem rank3_at {p:PM} {ws:List Int} {a j:Nat} (h:j < ws.length):at0 (rank3 p ws a) j=findL (fun y=>at0 (rank2 p ws a) j==y) (ranksOf (cell2 p ws a) (rank2 p ws a) (at0 (cell2 p ws a) j)):=by
 simp [rank3,at0,List.getD,h]
theorem full_map2 {l l':List Int} {n:Nat} (h:l.length=n):(List.range n).map (fun u=>D.int .i64 (if u < n then at0 l u else at0 l' u))=l.map (D.int .i64):=by
 subst h
 refine List.ext_getElem (by simp) fun i h1 h2=>?_
 have hi:i < l.length:=by simpa using h2
 simp [hi,at0,List.getD]
def RanksOwn (T:Nat→Obj→Prop):Prop := ∀ cell rank:List Int,cell.length≤rank.length→rank.length≤64 →
 Fn Tryz.prog T f_plaus_ranks [.own 0,.own 1] [.row 1 (cell.map (D.int .i64)),.row 1 (rank.map (D.int .i64))] (.d (.map (ranksD cell rank))) [some (.row 1 (cell.map (D.int .i64))),some (.row 1 (rank.map (D.int .i64)))]
set_option maxHeartbeats 2000000 in
theorem fn_Restrict (hR:RanksOk T) (hRO:RanksOwn T) (p:PM) (hp:IntsOk p.rank) (s:BitVec 64):Fn Tryz.prog T f_plaus_Restrict [.d (dPM p),.d (.u64 s)] [] (.d (dPLI (restL p s))) []:=by
 refine fn_dataR hmix k_plaus_Restrict (by show 2≤162;decide) ?_
 (repeat' ((conv=>whnf);first|refine vA ?_|(refine vD ?_ ?_<;>intro hc)|refine yD (fn_plaus_Check hR _ hp) ⟨⟨rfl,rfl⟩,rfl⟩ rfl ?_));all_goals try conv=>whnf
 ·rw [restL,if_pos hc];rfl
 have hck:=‹checkL p=0›
 have hg':=checkL_good hck
 have hw1:=hg'.w1
 have hw2:=hg'.w2
 have hv8:=hg'.v8
 have hn4:=hg'.n4
 (repeat' ((conv=>whnf);first|refine vA ?_|((first|refine vD ?_ ?_|refine vF ?_ ?_)<;>intro hc)|refine yD (fn_plaus_all p.W (by omega)) ⟨⟨rfl,rfl⟩,rfl⟩ rfl ?_));all_goals try conv=>whnf
 ·rw [restL,if_neg (not_not_intro hck),if_pos ‹s &&& ~~~allL p.W≠(0:BitVec 64)›];rfl
 ·rw [restL,if_neg (not_not_intro hck),if_neg (not_not_intro ‹s &&& ~~~allL p.W=(0:BitVec 64)›),if_pos ‹s=0›];rfl
 have hs1:=‹s &&& ~~~allL p.W=(0:BitVec 64)›
 have hs2:=‹¬s=0›
 refine loop_mem (fun ((i,zs):Nat×List D)=>[(1,.d (.u64 (s))),(2,.ptr 0 0),(4,.ptr 1 0),(8,.own 2),(40,.d (.int .i64 (p.W))),(41,.d (.int .i64 ((i:Int))))]) (fun ((i,zs):Nat×List D)=>[(0,some (boxPM p)),(1,some box0),(2,some (.row 1 zs))]) 3 (fun ((i,zs):Nat×List D)=>i≤p.W.toNat∧zs=(wsL s i).map (D.int .i64)) (fun ((i,zs):Nat×List D)=>p.W.toNat - i) ((0,[])) [(0,0),(1,1)]   [2] (⟨by simp,rfl⟩) (by (refine ⟨rfl,rfl,rfl,?_,?_⟩;repeat' first|exact trivial|exact rfl|exact ⟨_,rfl⟩|refine And.intro ?_ ?_|refine ⟨_,rfl,?_⟩|decide)) ?_
 rintro ⟨i,_⟩ ⟨hi,rfl⟩
 (repeat' ((conv=>whnf);first|refine vA ?_|(refine vF ?_ ?_<;>intro hc<;>try simp only [vL] at hc)|refine vJ fun hg=>?_|((first|refine vO ?_ ?_|refine vP ?_ ?_);·omega)|fail));all_goals try conv=>whnf
 ·have hwl:=wsL_len (s:=s) (n:=i)
  refine NeedS.mk (by simp only [List.length_map,mostLen,List.length_set,List.length_replicate];omega) ?_
  (repeat' ((conv=>whnf);first|(refine vO ?_ ?_;·omega)|fail));all_goals try conv=>whnf
  refine ⟨(i+1,_),[(0,0),(1,1),(2,4)],[],?_,?_,by (refine ⟨rfl,rfl,rfl,?_,?_⟩;repeat' first|exact trivial|exact rfl|refine And.intro ?_ ?_|refine ⟨_,rfl,?_⟩|decide)⟩
  ·refine ⟨by (omega),?_⟩
   rw [wsL_succ,if_pos ((bit_one s i).1 ‹s >>> ((i:Nat):Int).toNat&&&1#64=1#64›),List.map_append];rfl
  ·((simp only [vM] at *;omega))
 ·refine ⟨(i+1,_),[(0,0),(1,1),(2,2)],[],?_,?_,by (refine ⟨rfl,rfl,rfl,?_,?_⟩;repeat' first|exact trivial|exact rfl|refine And.intro ?_ ?_|refine ⟨_,rfl,?_⟩|decide)⟩
  ·refine ⟨by (omega),?_⟩
   rw [wsL_succ,if_neg (mt (bit_one s i).2 ‹¬s >>> ((i:Nat):Int).toNat&&&1#64=1#64›),List.append_nil]
  ·((simp only [vM] at *;omega))
 obtain rfl:i=p.W.toNat:=by omega
 rw [show restL p s=(restPM p (wsL s p.W.toNat),wsL s p.W.toNat,0) by rw [restL,if_neg (not_not_intro hck),if_neg (not_not_intro hs1),if_neg hs2]]
 have hwl:=wsL_len (s:=s) (n:=p.W.toNat)
 have hwm : ∀ x∈wsL s p.W.toNat,0≤x∧x < p.W:=fun x hx=>by have:=wsL_mem hx;omega
 generalize wsL s p.W.toNat=ws at hwl hwm
 refine loop_mem (fun ((k,zs):Nat×List D)=>[(2,.ptr 0 0),(4,.ptr 1 0),(8,.own 2),(10,.ptr 3 0),(58,.d (dU p.val)),(59,.d (.int .i64 ((p.val.map D.u64).length:Int))),(60,.d (.int .i64 ((k:Int))))]) (fun ((k,zs):Nat×List D)=>[(0,some (boxPM p)),(1,some box0),(2,some (.row 1 (ws.map (D.int .i64)))),(3,some (.box [.d (.int .i64 ((ws.map (D.int .i64)).length:Int)),.own 4,.nils 1,.nils 1])),(4,some (.row 1 zs))]) 5 (fun ((k,zs):Nat×List D)=>k≤p.val.length∧zs=(p.val.take k).map fun v=>D.u64 (packN v ws ws.length)) (fun ((k,zs):Nat×List D)=>p.val.length - k) ((0,[])) [(0,0),(1,1),(2,2),(3,3)]   [4] (⟨by simp,rfl⟩) (by (refine ⟨rfl,rfl,rfl,?_,?_⟩;repeat' first|exact trivial|exact rfl|exact ⟨_,rfl⟩|refine And.intro ?_ ?_|refine ⟨_,rfl,?_⟩|decide)) ?_
 rintro ⟨k,_⟩ ⟨hk,rfl⟩
 (repeat' ((conv=>whnf);first|refine vA ?_|(refine vF ?_ ?_<;>intro hc<;>try simp only [vL] at hc)|refine vJ fun hg=>?_|(refine vQ ?_ fun x hx=>?_;·omega)|fail));all_goals try conv=>whnf
 ·refine loop_mem (fun ((j,acc):Nat×BitVec 64)=>[(2,.ptr 0 0),(4,.ptr 1 0),(8,.own 2),(10,.ptr 3 0),(12,.d (.u64 (x))),(13,.d (.u64 (acc))),(58,.d (dU p.val)),(59,.d (.int .i64 ((p.val.map D.u64).length:Int))),(60,.d (.int .i64 ((k:Int)))),(64,.own 2),(65,.d (.int .i64 ((ws.map (D.int .i64)).length:Int))),(66,.d (.int .i64 ((j:Int))))]) (fun ((j,acc):Nat×BitVec 64)=>[(0,some (boxPM p)),(1,some box0),(2,some (.row 1 (ws.map (D.int .i64)))),(3,some (.box [.d (.int .i64 ((ws.map (D.int .i64)).length:Int)),.own 4,.nils 1,.nils 1])),(4,some (.row 1 ((p.val.take k).map fun v=>D.u64 (packN v ws ws.length))))]) 5 (fun ((j,acc):Nat×BitVec 64)=>j≤ws.length∧acc=packN x ws j) (fun ((j,acc):Nat×BitVec 64)=>ws.length - j) ((0,0)) [(0,0),(1,1),(2,2),(3,3),(4,4)] [] (⟨by simp,rfl⟩) (by (refine ⟨rfl,rfl,rfl,?_,?_⟩;repeat' first|exact trivial|exact rfl|refine And.intro ?_ ?_|refine ⟨_,rfl,?_⟩|decide)) ?_
  rintro ⟨j,_⟩ ⟨hj,rfl⟩
  (repeat' ((conv=>whnf);first|refine vA ?_|(refine vF ?_ ?_<;>intro hc<;>try simp only [vL] at hc)|(refine vQ ?_ fun x hx=>?_;·omega)|(refine vP ?_ ?_;·(simp only [vM] at *;omega))|fail));all_goals try conv=>whnf
  ·rename_i y hy
   refine NeedS.mk (hwm _ (List.mem_of_getElem? hx)).1 ?_
   (repeat' ((conv=>whnf);first|((first|refine vO ?_ ?_|refine vP ?_ ?_);·omega)|fail));all_goals try conv=>whnf
   refine ⟨(j+1,_),[(0,0),(1,1),(2,2),(3,3),(4,4)],[],?_,?_,by (refine ⟨rfl,rfl,rfl,?_,?_⟩;repeat' first|exact trivial|exact rfl|refine And.intro ?_ ?_|refine ⟨_,rfl,?_⟩|decide)⟩
   ·refine ⟨by (omega),?_⟩
    rw [packN,at0_of (l:=ws) (i:=j) hx];rfl
   ·((simp only [vM] at *;omega))
  ·obtain rfl:j=ws.length:=by omega
   have hkt:(p.val.take k).length=k:=List.length_take_of_le hk
   refine NeedS.mk (by simp only [List.length_map,hkt,mostLen,List.length_set,List.length_replicate];omega) ?_
   (repeat' ((conv=>whnf);first|(refine vO ?_ ?_;·omega)|fail));all_goals try conv=>whnf
   refine ⟨(k+1,_),[(0,0),(1,1),(2,2),(3,3),(4,6)],[],?_,?_,by (refine ⟨rfl,rfl,rfl,?_,?_⟩;repeat' first|exact trivial|exact rfl|refine And.intro ?_ ?_|refine ⟨_,rfl,?_⟩|decide)⟩
   ·refine ⟨by (omega),?_⟩
    rw [take_snoc hx,List.map_append];rfl
   ·((simp only [vM] at *;omega))
 have hkv:p.val.take k=p.val:=List.take_of_length_le (by omega)
 rw [hkv]
 refine loop_mem (fun ((a,xs,ys):Nat×List D×List D)=>[(2,.ptr 0 0),(4,.ptr 1 0),(8,.own 2),(10,.ptr 3 0),(89,.d (.int .i64 ((p.cell.map dI).length:Int))),(90,.d (.int .i64 ((a:Int))))]) (fun ((a,xs,ys):Nat×List D×List D)=>[(0,some (boxPM p)),(1,some box0),(2,some (.row 1 (ws.map (D.int .i64)))),(3,some (.box [.d (.int .i64 ((ws.map (D.int .i64)).length:Int)),.own 4,.own 5,.own 6])),(4,some (.row 1 (p.val.map fun v=>D.u64 (packN v ws ws.length)))),(5,some (.row 1 xs)),(6,some (.row 1 ys))]) 7 (fun ((a,xs,ys):Nat×List D×List D)=>a≤p.cell.length∧xs=(List.range a).map (fun a=>dI (cell2 p ws a))∧ys=(List.range a).map (fun a=>dI (rank3 p ws a))) (fun ((a,xs,ys):Nat×List D×List D)=>p.cell.length - a) ((0,[],[])) [(0,0),(1,1),(2,2),(3,3),(4,4)]   [5,6] (⟨by simp,rfl,rfl⟩) (by (refine ⟨rfl,rfl,rfl,?_,?_⟩;repeat' first|exact trivial|exact rfl|exact ⟨_,rfl⟩|refine And.intro ?_ ?_|refine ⟨_,rfl,?_⟩|decide)) ?_
 rintro ⟨a,_,_⟩ ⟨ha,rfl,rfl⟩
 (repeat' ((conv=>whnf);first|refine vA ?_|(refine vF ?_ ?_<;>intro hc<;>try simp only [vL] at hc)|refine vJ fun hg=>?_|(refine vP ?_ ?_;·(simp only [vM] at *;omega))|(refine vU ?_ ?_;·kernel_rfl)|fail));all_goals try conv=>whnf
 ·have hca:a < p.cell.length:=by omega
  refine loop_mem (fun ((j,us,vs):Nat×List D×List D)=>[(2,.ptr 0 0),(4,.ptr 1 0),(8,.own 2),(10,.ptr 3 0),(16,.ptr 7 0),(17,.own 8),(18,.own 9),(89,.d (.int .i64 ((p.cell.map dI).length:Int))),(90,.d (.int .i64 ((a:Int)))),(99,.own 2),(100,.d (.int .i64 ((ws.map (D.int .i64)).length:Int))),(101,.d (.int .i64 ((j:Int))))]) (fun ((j,us,vs):Nat×List D×List D)=>[(0,some (boxPM p)),(1,some box0),(2,some (.row 1 (ws.map (D.int .i64)))),(3,some (.box [.d (.int .i64 ((ws.map (D.int .i64)).length:Int)),.own 4,.own 5,.own 6])),(4,some (.row 1 (p.val.map fun v=>D.u64 (packN v ws ws.length)))),(5,some (.row 1 ((List.range a).map (fun a=>dI (cell2 p ws a))))),(6,some (.row 1 ((List.range a).map (fun a=>dI (rank3 p ws a))))),(7,some (.box [.d (.int .i64 (a:Int))])),(8,some (.row 1 us)),(9,some (.row 1 vs))]) 10 (fun ((j,us,vs):Nat×List D×List D)=>j≤ws.length∧us=(List.range ws.length).map (fun u=>D.int .i64 (if u < j then at0 (cell2 p ws a) u else 0))∧vs=(List.range ws.length).map (fun u=>D.int .i64 (if u < j then at0 (rank2 p ws a) u else 0))) (fun ((j,us,vs):Nat×List D×List D)=>ws.length - j) ((0,List.replicate ((ws.map (D.int .i64)).length:Int).toNat (D.int .i64 0),List.replicate ((ws.map (D.int .i64)).length:Int).toNat (D.int .i64 0))) [(0,0),(1,1),(2,2),(3,3),(4,4),(5,5),(6,6),(7,7),(8,8),(9,9)] [] (⟨by simp,by simp [List.map_const'],by simp [List.map_const']⟩) (by (refine ⟨rfl,rfl,rfl,?_,?_⟩;repeat' first|exact trivial|exact rfl|refine And.intro ?_ ?_|refine ⟨_,rfl,?_⟩|decide)) ?_
  rintro ⟨j,_,_⟩ ⟨hj,rfl,rfl⟩
  (repeat' ((conv=>whnf);first|refine vA ?_|(refine vF ?_ ?_<;>intro hc<;>try simp only [vL] at hc)|(refine vQ ?_ fun x hx=>?_;·omega)|(refine vP ?_ ?_;·(simp only [vM] at *;omega))|fail));all_goals try conv=>whnf
  ·have hxm:=hwm x (List.mem_of_getElem? hx)
   obtain ⟨v,rfl⟩ : ∃ v:Nat,x=v:=⟨x.toNat,by omega⟩
   obtain ⟨hlc,hlr⟩:=hg'.lens a hca
   have hlen:=hg'.len
   refine CallS.objs [0,7,10,2] (fn_IndexFunc p a v ws hca (by omega) (fun x hx=>by have:=hwm x hx;omega)) (by (repeat' first|exact rfl|refine And.intro ?_ ?_|refine ⟨_,rfl,?_⟩)) (by (repeat' first|exact rfl|refine And.intro ?_ ?_|refine ⟨_,rfl,?_⟩)) (by rfl) (by rfl) (by simp) ?_
   (repeat' ((conv=>whnf);first|(refine vQ ?_ fun x hx=>?_;·omega)|((first|refine vS ?_ fun x hx=>?_|refine vP ?_ ?_);·(simp only [vM] at *;omega))|fail));all_goals try conv=>whnf
   have e:=rowAt_of ‹p.rank[a]? = some _›
   subst e
   (repeat' ((conv=>whnf);first|(refine vQ ?_ fun x hx=>?_;·omega)|((first|refine vO ?_ ?_|refine vP ?_ ?_);·first|omega|(simp only [vM] at *;omega))|(refine vU ?_ ?_;·kernel_rfl)|fail));all_goals try conv=>whnf
   have hxj:ws[j]? = some (v:Int):=‹ws[((j:Nat):Int).toNat]? = some _›
   have hxr:=at0_of hx
   refine ⟨(j+1,_,_),[(0,0),(1,1),(2,2),(3,3),(4,4),(5,5),(6,6),(7,7),(8,8),(9,9)],[],?_,?_,by (refine ⟨rfl,rfl,rfl,?_,?_⟩;repeat' first|exact trivial|exact rfl|refine And.intro ?_ ?_|refine ⟨_,rfl,?_⟩|decide)⟩
   ·refine ⟨by (omega),(set_range _).trans (map_range_congr fun u hu=>?_),(set_range _).trans (map_range_congr fun u hu=>?_)⟩
    ·show (if u=j then _ else _)=_
     by_cases e:u=j
     ·subst e;rw [if_pos rfl,if_pos (Nat.lt_succ_self _),cell2,at0_map hxj];rfl
     ·by_cases e1:u < j
      ·simp [e1,e,show u < j+1 by omega]
      ·simp [e1,e,show ¬ u < j+1 by omega]
    ·show (if u=j then _ else _)=_
     by_cases e:u=j
     ·subst e;rw [if_pos rfl,if_pos (Nat.lt_succ_self _),rank2,at0_map hxj,← hxr];rfl
     ·by_cases e1:u < j
      ·simp [e1,e,show u < j+1 by omega]
      ·simp [e1,e,show ¬ u < j+1 by omega]
   ·((simp only [vM] at *;omega))
  ·obtain rfl:j=ws.length:=by omega
   rw [full_map (l:=cell2 p ws a) (by simp [cell2]),full_map (l:=rank2 p ws a) (by simp [rank2])]
   refine CallS.objs [8,9] (hRO (cell2 p ws a) (rank2 p ws a) (by simp [cell2,rank2]) (by simp only [rank2,List.length_map];omega)) (by (repeat' first|exact rfl|refine And.intro ?_ ?_|refine ⟨_,rfl,?_⟩)) (by (repeat' first|exact rfl|refine And.intro ?_ ?_)) (by rfl) (by rfl) (by simp) ?_
   (repeat' ((conv=>whnf);first|refine vA ?_|refine vJ fun hg=>?_));all_goals try conv=>whnf
   refine loop_mem (fun ((j,vs):Nat×List D)=>[(2,.ptr 0 0),(4,.ptr 1 0),(8,.own 2),(10,.ptr 3 0),(17,.own 8),(18,.own 9),(21,.d (.map (ranksD (cell2 p ws a) (rank2 p ws a)))),(89,.d (.int .i64 ((p.cell.map dI).length:Int))),(90,.d (.int .i64 ((a:Int)))),(128,.d (.int .i64 ((ws.map (D.int .i64)).length:Int))),(129,.d (.int .i64 ((j:Int))))]) (fun ((j,vs):Nat×List D)=>[(0,some (boxPM p)),(1,some box0),(2,some (.row 1 (ws.map (D.int .i64)))),(3,some (.box [.d (.int .i64 ((ws.map (D.int .i64)).length:Int)),.own 4,.own 5,.own 6])),(4,some (.row 1 (p.val.map fun v=>D.u64 (packN v ws ws.length)))),(5,some (.row 1 ((List.range a).map (fun a=>dI (cell2 p ws a))))),(6,some (.row 1 ((List.range a).map (fun a=>dI (rank3 p ws a))))),(8,some (.row 1 ((cell2 p ws a).map (D.int .i64)))),(9,some (.row 1 vs))]) 10 (fun ((j,vs):Nat×List D)=>j≤ws.length∧vs=(List.range ws.length).map (fun u=>D.int .i64 (if u < j then at0 (rank3 p ws a) u else at0 (rank2 p ws a) u))) (fun ((j,vs):Nat×List D)=>ws.length - j) ((0,(rank2 p ws a).map (D.int .i64))) [(0,0),(1,1),(2,2),(3,3),(4,4),(5,5),(6,6),(8,8),(9,9)] [] (⟨by simp,(rest_map (l:=rank2 p ws a) (by simp [rank2])).symm⟩) (by (refine ⟨rfl,rfl,rfl,?_,?_⟩;repeat' first|exact trivial|exact rfl|refine And.intro ?_ ?_|refine ⟨_,rfl,?_⟩|decide)) ?_
   rintro ⟨j,_⟩ ⟨hj,rfl⟩
   have hlc2:(cell2 p ws a).length=ws.length:=by simp [cell2]
   (repeat' ((conv=>whnf);first|refine vA ?_|(refine vF ?_ ?_<;>intro hc<;>try simp only [vL] at hc)|refine vT ?_|(refine vQ ?_ fun x hx=>?_;·omega)|((first|refine vO ?_ ?_|refine vP ?_ ?_);·first|omega|(simp only [vM] at *;omega))|(refine vU ?_ ?_;·kernel_rfl)|fail));all_goals try conv=>whnf
   ·have hxc:(cell2 p ws a)[j]? = some x:=hx
    refine ⟨_,find_ranks (mem_keysOf.2 (List.mem_of_getElem? hxc)),?_⟩
    (repeat' ((conv=>whnf);first|(refine vQ ?_ fun x hx=>?_;·(simp only [vM] at *;omega))|((first|refine vO ?_ ?_|refine vP ?_ ?_);·first|omega|(simp only [vM] at *;omega))|(refine vU ?_ ?_;·kernel_rfl)|refine yD (fn_Index_int _ _) ⟨⟨rfl,rfl⟩,⟨rfl,rfl⟩,rfl⟩ rfl ?_));all_goals try conv=>whnf
    have hxe:j=x:=(get_range hx).symm
    subst hxe
    have hxr:=at0_of hxc
    refine ⟨(j+1,_),[(0,0),(1,1),(2,2),(3,3),(4,4),(5,5),(6,6),(8,8),(9,9)],[],?_,?_,by (refine ⟨rfl,rfl,rfl,?_,?_⟩;repeat' first|exact trivial|exact rfl|refine And.intro ?_ ?_|refine ⟨_,rfl,?_⟩|decide)⟩
    ·refine ⟨by (omega),(set_range _).trans (map_range_congr fun u hu=>?_)⟩
     show (if u=_ then _ else _)=_
     by_cases e:u=j
     ·subst e
      rw [if_pos (show u=((u:Nat):Int).toNat from rfl),if_pos (Nat.lt_succ_self _),rank3_at hu,hxr]
      simp
     ·by_cases e1:u < j
      ·simp [e1,e,show u < j+1 by omega]
      ·simp [e1,e,show ¬ u < j+1 by omega]
    ·((simp only [vM] at *;omega))
   ·obtain rfl:j=ws.length:=by omega
    refine ⟨(a+1,_,_),[(0,0),(1,1),(2,2),(3,3),(4,4),(5,11),(6,13)],[],?_,?_,by (refine ⟨rfl,rfl,rfl,?_,?_⟩;repeat' first|exact trivial|exact rfl|refine And.intro ?_ ?_|refine ⟨_,rfl,?_⟩|decide)⟩
    ·refine ⟨by (omega),?_,?_⟩
     ·rw [List.range_succ,List.map_append];rfl
     ·rw [List.range_succ,List.map_append]
      exact congrArg (_++[D.arr 1 ·]) (full_map2 (by simp [rank3]))
    ·((simp only [vM] at *;omega))
 ·have hae:a=p.cell.length:=by omega
  subst hae
  show some (D.tup [D.agg [.int .i64 ((ws.map (D.int .i64)).length:Int),.arr 1 (p.val.map fun v=>D.u64 (packN v ws ws.length)),.arr 1 ((List.range p.cell.length).map (fun a=>dI (cell2 p ws a))),.arr 1 ((List.range p.cell.length).map (fun a=>dI (rank3 p ws a)))],dI ws,.int .i64 0])=_
  rw [List.length_map]
  show _=some (D.tup [D.agg [.int .i64 (ws.length:Int),.arr 1 ((p.val.map fun v=>packN v ws ws.length).map D.u64),.arr 1 (((List.range p.cell.length).map (cell2 p ws)).map dI),.arr 1 (((List.range p.cell.length).map (rank3 p ws)).map dI)],dI ws,.int .i64 0])
  rw [List.map_map,List.map_map,List.map_map];rfl
end Go.Ab

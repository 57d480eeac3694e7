import Derived.Test.YtmfkgpfkpnmdnaaGreatDoorTk9
section
namespace Eng.Tk
variable [Env] [xr]
def tabL:List qg:=[e8,e14,e22,e31,e37,e44,e50,e58,e66,e74,e83,e91,e97,e104,e113,e119,e125,e168,e185,e216,e238,e257,e272,e295,e318,e335,e350,e361,e378,e384,e396,e402,e403,e404,e407,e408,e409,e410,e411,e412,e413,e414,e415,e416,e418,e419,e420,e421,e422,e423,e424,e425,e426,e428,e429,e430,e432,e433,e434,e435,e437,e438,e439,e440,e441,e454,e457,e460,e463,e468,e471,e474,e477]
theorem tabL_ok:KP KT tabL:=(c g8 (c g14 (c g22 (c g31 (c g37 (c g44 (c g50 (c g58 (c g66 (c g74 (c g83 (c g91 (c g97 (c g104 (c g113 (c g119 (c g125 (c g168 (c g185 (c g216 (c g238 (c g257 (c g272 (c g295 (c g318 (c g335 (c g350 (c g361 (c g378 (c g384 (c g396 (c g402 (c g403 (c g404 (c g407 (c g408 (c g409 (c g410 (c g411 (c g412 (c g413 (c g414 (c g415 (c g416 (c g418 (c g419 (c g420 (c g421 (c g422 (c g423 (c g424 (c g425 (c g426 (c g428 (c g429 (c g430 (c g432 (c g433 (c g434 (c g435 (c g437 (c g438 (c g439 (c g440 (c g441 (c g454 (c g457 (c g460 (c g463 (c g468 (c g471 (c g474 (c g477 n)))))))))))))))))))))))))))))))))))))))))))))))))))))))))))))))))))))))))
end Eng.Tk
end
